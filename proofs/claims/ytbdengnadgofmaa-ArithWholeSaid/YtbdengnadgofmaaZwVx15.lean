import Derived.Test.YtbdengnadgofmaaZwVx0
import Derived.Test.YtbdengnadgofmaaZwVx1
import Derived.Test.YtbdengnadgofmaaZwVx4
import Derived.Test.YtbdengnadgofmaaZwVx5
import Derived.Test.YtbdengnadgofmaaZwVx6
namespace Go.Proofs.Ytbdengnadgofmaa.V
open Go.RowKit Go.Proofs.YtbdengnadgofmaaW.PrintWords Go.Proofs.YtbdengnadgofmaaW.PrintLast Go.Proofs.YtbdengnadgofmaaW.PrintMore
attribute [local go_sem] max2_int min2_int max_two min_two max_three min_three max_four min_four   -- for this text's walks alone
set_option linter.unusedVariables false
set_option linter.unusedSimpArgs false
attribute [local go_sem high] eqA25
/-! ### hasplaw03_ArithWhole: function 7 -/
def hasplaw03_ArithWhole.j0 : Nat → Int → Int → Option (Bool)
  | 0, _, _ => none
  | k + 1, x0, x1 => (hasplaw03_num.f x0).bind fun bt246 => ((hasplaw03_num.f x1).bind fun bt249 => ((arith_Do.f k 7 (([(⟨bt246.1, bt246.2.1, bt246.2.2⟩ : S25), (⟨bt249.1, bt249.2.1, bt249.2.2⟩ : S25)] : List (S25)))).bind fun bt255 => (if bt255.2.2.2 = 0 then ((hasplaw03_num.f x1).bind fun bt260 => ((arith_Do.f k 8 (([(⟨bt255.1, bt255.2.1, bt255.2.2.1⟩ : S25), (⟨bt260.1, bt260.2.1, bt260.2.2⟩ : S25)] : List (S25)))).bind fun bt266 => (if bt266.2.2.2 = 0 then ((hasplaw03_num.f x0).bind fun bt271 => (some (bt266.1 == bt271.1 && (bt266.2.1 == bt271.2.1 && (bt266.2.2.1.toList == bt271.2.2.toList))))) else (some false)))) else (if bt255.2.2.2 = 31 then (if ((decide (x0 < 0)) == (decide (x1 < 0))) = true then (if x0 = 0 then (some false) else (some (x1 != 0))) else (some false)) else (some false)))))
def hasplaw03_ArithWhole.f (k : Nat) (a0 : Int) (a1 : Int) : Option (Bool) := (hasplaw03_speaks.f).bind fun t217 => (if t217 = true then ((hasplaw03_num.f a0).bind fun bt218 => ((hasplaw03_num.f a1).bind fun bt221 => ((arith_Do.f k 10 (([(⟨bt218.1, bt218.2.1, bt218.2.2⟩ : S25), (⟨bt221.1, bt221.2.1, bt221.2.2⟩ : S25)] : List (S25)))).bind fun bt227 => ((hasplaw03_num.f a0).bind fun bt232 => ((hasplaw03_num.f a1).bind fun bt235 => ((arith_Do.f k 11 (([(⟨bt232.1, bt232.2.1, bt232.2.2⟩ : S25), (⟨bt235.1, bt235.2.1, bt235.2.2⟩ : S25)] : List (S25)))).bind fun bt241 => (if a1 = 0 then (if bt227.2.2.2 = 32 then (if bt241.2.2.2 = 32 then (hasplaw03_ArithWhole.j0 k a0 a1) else (some false)) else (some false)) else (if bt241.2.2.2 = 0 then (if a0 = (-9223372036854775808) then (if ((bt227.2.2.2 != 0) != (a1 == (-1))) = true then (some false) else (if bt227.2.2.2 = 0 then (if (wrap64 ((wrap64 (bt227.2.1 * a1)) + bt241.2.1)) = a0 then (hasplaw03_ArithWhole.j0 k a0 a1) else (some false)) else (hasplaw03_ArithWhole.j0 k a0 a1))) else (if ((bt227.2.2.2 != 0) != false) = true then (some false) else (if bt227.2.2.2 = 0 then (if (wrap64 ((wrap64 (bt227.2.1 * a1)) + bt241.2.1)) = a0 then (hasplaw03_ArithWhole.j0 k a0 a1) else (some false)) else (hasplaw03_ArithWhole.j0 k a0 a1)))) else (some false))))))))) else (some false))
def hasplaw03_ArithWhole.T12 : Bool × List (List Nat × List Nat) := (true, [([], []), ([], []), ([1], [1]), ([0, 2], [0, 2]), ([3, 2], [3]), ([4], [4]), ([5], [5]), ([5], [5]), ([], []), ([8, 6, 4, 0, 1, 2, 3, 4, 5, 6, 8], [6, 8]), ([7, 9, 0, 1, 2, 3, 4, 5, 6, 7, 8, 9], [7])])
def hasplaw03_ArithWhole.B12 : List Nat := [0, 0, 2, 7, 15, 31, 63, 63, 0, 383, 1023]
theorem hasplaw03_ArithWhole.tab12 : rtab .any (opsOf Try.f7 12) = hasplaw03_ArithWhole.T12 := by kernel_rfl
theorem hasplaw03_ArithWhole.bits12 : waitsOk hasplaw03_ArithWhole.T12.2 hasplaw03_ArithWhole.B12 = true := by kernel_rfl
def hasplaw03_ArithWhole.T13 : Bool × List (List Nat × List Nat) := (true, [([], []), ([0], [0]), ([1], [1]), ([2], [2]), ([2], [2]), ([4, 2, 2], [2, 4]), ([3, 5, 2], [2, 3, 5]), ([2, 6], [2, 6]), ([7, 5, 0, 1, 2, 3, 4, 5, 6, 7], [7])])
def hasplaw03_ArithWhole.B13 : List Nat := [0, 1, 3, 7, 7, 23, 63, 127, 255]
theorem hasplaw03_ArithWhole.tab13 : rtab .any (opsOf Try.f7 13) = hasplaw03_ArithWhole.T13 := by kernel_rfl
theorem hasplaw03_ArithWhole.bits13 : waitsOk hasplaw03_ArithWhole.T13.2 hasplaw03_ArithWhole.B13 = true := by kernel_rfl
set_option maxHeartbeats 8000000 in
set_option maxRecDepth 100000 in
theorem hasplaw03_ArithWhole.calls (k : Nat) (a0 : Int) (a1 : Int) (r : Bool) (w : World) (h : hasplaw03_ArithWhole.f k a0 a1 = some r) (hr : r = true) :
    Calls Try.prog 7 #[.int .i64 a0, .int .i64 a1] w fun e w' => e = .returned (.bool r) ∧ Below w.heap.size w w' := by
  have hu25 := Try.underlying25
  have HB := Aside0.mk (Below.refl w.heap.size w)
  have H : ((hasplaw03_speaks.f).bind fun t217 => (if t217 = true then ((hasplaw03_num.f a0).bind fun bt218 => ((hasplaw03_num.f a1).bind fun bt221 => ((arith_Do.f k 10 (([(⟨bt218.1, bt218.2.1, bt218.2.2⟩ : S25), (⟨bt221.1, bt221.2.1, bt221.2.2⟩ : S25)] : List (S25)))).bind fun bt227 => ((hasplaw03_num.f a0).bind fun bt232 => ((hasplaw03_num.f a1).bind fun bt235 => ((arith_Do.f k 11 (([(⟨bt232.1, bt232.2.1, bt232.2.2⟩ : S25), (⟨bt235.1, bt235.2.1, bt235.2.2⟩ : S25)] : List (S25)))).bind fun bt241 => (if a1 = 0 then (if bt227.2.2.2 = 32 then (if bt241.2.2.2 = 32 then (hasplaw03_ArithWhole.j0 k a0 a1) else (some false)) else (some false)) else (if bt241.2.2.2 = 0 then (if a0 = (-9223372036854775808) then (if ((bt227.2.2.2 != 0) != (a1 == (-1))) = true then (some false) else (if bt227.2.2.2 = 0 then (if (wrap64 ((wrap64 (bt227.2.1 * a1)) + bt241.2.1)) = a0 then (hasplaw03_ArithWhole.j0 k a0 a1) else (some false)) else (hasplaw03_ArithWhole.j0 k a0 a1))) else (if ((bt227.2.2.2 != 0) != false) = true then (some false) else (if bt227.2.2.2 = 0 then (if (wrap64 ((wrap64 (bt227.2.1 * a1)) + bt241.2.1)) = a0 then (hasplaw03_ArithWhole.j0 k a0 a1) else (some false)) else (hasplaw03_ArithWhole.j0 k a0 a1)))) else (some false))))))))) else (some false))) = some r := h
  clear h
  replace H := Option.bind_eq_some_iff.mp H
  obtain ⟨t217, A30, H⟩ := H
  replace H : (if t217 = true then ((hasplaw03_num.f a0).bind fun bt218 => ((hasplaw03_num.f a1).bind fun bt221 => ((arith_Do.f k 10 (([(⟨bt218.1, bt218.2.1, bt218.2.2⟩ : S25), (⟨bt221.1, bt221.2.1, bt221.2.2⟩ : S25)] : List (S25)))).bind fun bt227 => ((hasplaw03_num.f a0).bind fun bt232 => ((hasplaw03_num.f a1).bind fun bt235 => ((arith_Do.f k 11 (([(⟨bt232.1, bt232.2.1, bt232.2.2⟩ : S25), (⟨bt235.1, bt235.2.1, bt235.2.2⟩ : S25)] : List (S25)))).bind fun bt241 => (if a1 = 0 then (if bt227.2.2.2 = 32 then (if bt241.2.2.2 = 32 then (hasplaw03_ArithWhole.j0 k a0 a1) else (some false)) else (some false)) else (if bt241.2.2.2 = 0 then (if a0 = (-9223372036854775808) then (if ((bt227.2.2.2 != 0) != (a1 == (-1))) = true then (some false) else (if bt227.2.2.2 = 0 then (if (wrap64 ((wrap64 (bt227.2.1 * a1)) + bt241.2.1)) = a0 then (hasplaw03_ArithWhole.j0 k a0 a1) else (some false)) else (hasplaw03_ArithWhole.j0 k a0 a1))) else (if ((bt227.2.2.2 != 0) != false) = true then (some false) else (if bt227.2.2.2 = 0 then (if (wrap64 ((wrap64 (bt227.2.1 * a1)) + bt241.2.1)) = a0 then (hasplaw03_ArithWhole.j0 k a0 a1) else (some false)) else (hasplaw03_ArithWhole.j0 k a0 a1)))) else (some false))))))))) else (some false)) = some r := H
  have A3 := Aside0.mk A30
  clear A30
  by_cases c4 : t217 = true
  · subst c4
    have H1 : ((hasplaw03_num.f a0).bind fun bt218 => ((hasplaw03_num.f a1).bind fun bt221 => ((arith_Do.f k 10 (([(⟨bt218.1, bt218.2.1, bt218.2.2⟩ : S25), (⟨bt221.1, bt221.2.1, bt221.2.2⟩ : S25)] : List (S25)))).bind fun bt227 => ((hasplaw03_num.f a0).bind fun bt232 => ((hasplaw03_num.f a1).bind fun bt235 => ((arith_Do.f k 11 (([(⟨bt232.1, bt232.2.1, bt232.2.2⟩ : S25), (⟨bt235.1, bt235.2.1, bt235.2.2⟩ : S25)] : List (S25)))).bind fun bt241 => (if a1 = 0 then (if bt227.2.2.2 = 32 then (if bt241.2.2.2 = 32 then (hasplaw03_ArithWhole.j0 k a0 a1) else (some false)) else (some false)) else (if bt241.2.2.2 = 0 then (if a0 = (-9223372036854775808) then (if ((bt227.2.2.2 != 0) != (a1 == (-1))) = true then (some false) else (if bt227.2.2.2 = 0 then (if (wrap64 ((wrap64 (bt227.2.1 * a1)) + bt241.2.1)) = a0 then (hasplaw03_ArithWhole.j0 k a0 a1) else (some false)) else (hasplaw03_ArithWhole.j0 k a0 a1))) else (if ((bt227.2.2.2 != 0) != false) = true then (some false) else (if bt227.2.2.2 = 0 then (if (wrap64 ((wrap64 (bt227.2.1 * a1)) + bt241.2.1)) = a0 then (hasplaw03_ArithWhole.j0 k a0 a1) else (some false)) else (hasplaw03_ArithWhole.j0 k a0 a1)))) else (some false))))))))) = some r := by rw [if_pos rfl] at H; exact H
    clear H
    have H := H1
    clear H1
    replace H := Option.bind_eq_some_iff.mp H
    obtain ⟨⟨t218, t219, t220⟩, A50, H⟩ := H
    replace H : ((hasplaw03_num.f a1).bind fun bt221 => ((arith_Do.f k 10 (([(⟨t218, t219, t220⟩ : S25), (⟨bt221.1, bt221.2.1, bt221.2.2⟩ : S25)] : List (S25)))).bind fun bt227 => ((hasplaw03_num.f a0).bind fun bt232 => ((hasplaw03_num.f a1).bind fun bt235 => ((arith_Do.f k 11 (([(⟨bt232.1, bt232.2.1, bt232.2.2⟩ : S25), (⟨bt235.1, bt235.2.1, bt235.2.2⟩ : S25)] : List (S25)))).bind fun bt241 => (if a1 = 0 then (if bt227.2.2.2 = 32 then (if bt241.2.2.2 = 32 then (hasplaw03_ArithWhole.j0 k a0 a1) else (some false)) else (some false)) else (if bt241.2.2.2 = 0 then (if a0 = (-9223372036854775808) then (if ((bt227.2.2.2 != 0) != (a1 == (-1))) = true then (some false) else (if bt227.2.2.2 = 0 then (if (wrap64 ((wrap64 (bt227.2.1 * a1)) + bt241.2.1)) = a0 then (hasplaw03_ArithWhole.j0 k a0 a1) else (some false)) else (hasplaw03_ArithWhole.j0 k a0 a1))) else (if ((bt227.2.2.2 != 0) != false) = true then (some false) else (if bt227.2.2.2 = 0 then (if (wrap64 ((wrap64 (bt227.2.1 * a1)) + bt241.2.1)) = a0 then (hasplaw03_ArithWhole.j0 k a0 a1) else (some false)) else (hasplaw03_ArithWhole.j0 k a0 a1)))) else (some false)))))))) = some r := H
    have A5 := Aside0.mk A50
    clear A50
    replace H := Option.bind_eq_some_iff.mp H
    obtain ⟨⟨t221, t222, t223⟩, A60, H⟩ := H
    replace H : ((arith_Do.f k 10 (([(⟨t218, t219, t220⟩ : S25), (⟨t221, t222, t223⟩ : S25)] : List (S25)))).bind fun bt227 => ((hasplaw03_num.f a0).bind fun bt232 => ((hasplaw03_num.f a1).bind fun bt235 => ((arith_Do.f k 11 (([(⟨bt232.1, bt232.2.1, bt232.2.2⟩ : S25), (⟨bt235.1, bt235.2.1, bt235.2.2⟩ : S25)] : List (S25)))).bind fun bt241 => (if a1 = 0 then (if bt227.2.2.2 = 32 then (if bt241.2.2.2 = 32 then (hasplaw03_ArithWhole.j0 k a0 a1) else (some false)) else (some false)) else (if bt241.2.2.2 = 0 then (if a0 = (-9223372036854775808) then (if ((bt227.2.2.2 != 0) != (a1 == (-1))) = true then (some false) else (if bt227.2.2.2 = 0 then (if (wrap64 ((wrap64 (bt227.2.1 * a1)) + bt241.2.1)) = a0 then (hasplaw03_ArithWhole.j0 k a0 a1) else (some false)) else (hasplaw03_ArithWhole.j0 k a0 a1))) else (if ((bt227.2.2.2 != 0) != false) = true then (some false) else (if bt227.2.2.2 = 0 then (if (wrap64 ((wrap64 (bt227.2.1 * a1)) + bt241.2.1)) = a0 then (hasplaw03_ArithWhole.j0 k a0 a1) else (some false)) else (hasplaw03_ArithWhole.j0 k a0 a1)))) else (some false))))))) = some r := H
    have A6 := Aside0.mk A60
    clear A60
    obtain ⟨y224, hy224⟩ : ∃ y_ : List (S25), y_ = (([(⟨t218, t219, t220⟩ : S25), (⟨t221, t222, t223⟩ : S25)] : List (S25))) := ⟨_, rfl⟩
    replace H : ((arith_Do.f k 10 y224).bind fun bt227 => ((hasplaw03_num.f a0).bind fun bt232 => ((hasplaw03_num.f a1).bind fun bt235 => ((arith_Do.f k 11 (([(⟨bt232.1, bt232.2.1, bt232.2.2⟩ : S25), (⟨bt235.1, bt235.2.1, bt235.2.2⟩ : S25)] : List (S25)))).bind fun bt241 => (if a1 = 0 then (if bt227.2.2.2 = 32 then (if bt241.2.2.2 = 32 then (hasplaw03_ArithWhole.j0 k a0 a1) else (some false)) else (some false)) else (if bt241.2.2.2 = 0 then (if a0 = (-9223372036854775808) then (if ((bt227.2.2.2 != 0) != (a1 == (-1))) = true then (some false) else (if bt227.2.2.2 = 0 then (if (wrap64 ((wrap64 (bt227.2.1 * a1)) + bt241.2.1)) = a0 then (hasplaw03_ArithWhole.j0 k a0 a1) else (some false)) else (hasplaw03_ArithWhole.j0 k a0 a1))) else (if ((bt227.2.2.2 != 0) != false) = true then (some false) else (if bt227.2.2.2 = 0 then (if (wrap64 ((wrap64 (bt227.2.1 * a1)) + bt241.2.1)) = a0 then (hasplaw03_ArithWhole.j0 k a0 a1) else (some false)) else (hasplaw03_ArithWhole.j0 k a0 a1)))) else (some false))))))) = some r := by first | (rw [hy224]; with_reducible exact H) | (have H2_ := (Option.bind_some _ _).symm.trans H; rw [hy224]; with_reducible exact H2_) | (have H2_ := (Option.bind_some _ _).symm.trans H; with_reducible exact H2_) | with_reducible exact H | (rw [hy224]; exact H) | exact H
    have Ny224 := Aside0.mk hy224
    clear hy224
    replace H := Option.bind_eq_some_iff.mp H
    obtain ⟨⟨t227, t228, t229, t230⟩, A70, H⟩ := H
    replace H : ((hasplaw03_num.f a0).bind fun bt232 => ((hasplaw03_num.f a1).bind fun bt235 => ((arith_Do.f k 11 (([(⟨bt232.1, bt232.2.1, bt232.2.2⟩ : S25), (⟨bt235.1, bt235.2.1, bt235.2.2⟩ : S25)] : List (S25)))).bind fun bt241 => (if a1 = 0 then (if t230 = 32 then (if bt241.2.2.2 = 32 then (hasplaw03_ArithWhole.j0 k a0 a1) else (some false)) else (some false)) else (if bt241.2.2.2 = 0 then (if a0 = (-9223372036854775808) then (if ((t230 != 0) != (a1 == (-1))) = true then (some false) else (if t230 = 0 then (if (wrap64 ((wrap64 (t228 * a1)) + bt241.2.1)) = a0 then (hasplaw03_ArithWhole.j0 k a0 a1) else (some false)) else (hasplaw03_ArithWhole.j0 k a0 a1))) else (if ((t230 != 0) != false) = true then (some false) else (if t230 = 0 then (if (wrap64 ((wrap64 (t228 * a1)) + bt241.2.1)) = a0 then (hasplaw03_ArithWhole.j0 k a0 a1) else (some false)) else (hasplaw03_ArithWhole.j0 k a0 a1)))) else (some false)))))) = some r := H
    have A7 := Aside0.mk A70
    clear A70
    replace H := Option.bind_eq_some_iff.mp H
    obtain ⟨⟨t232, t233, t234⟩, A80, H⟩ := H
    obtain ⟨rfl, rfl, rfl⟩ : t218 = t232 ∧ t219 = t233 ∧ t220 = t234 := by have q_ := Option.some.inj (A5.out.symm.trans A80); simpa only [Prod.mk.injEq] using q_
    replace H : ((hasplaw03_num.f a1).bind fun bt235 => ((arith_Do.f k 11 (([(⟨t218, t219, t220⟩ : S25), (⟨bt235.1, bt235.2.1, bt235.2.2⟩ : S25)] : List (S25)))).bind fun bt241 => (if a1 = 0 then (if t230 = 32 then (if bt241.2.2.2 = 32 then (hasplaw03_ArithWhole.j0 k a0 a1) else (some false)) else (some false)) else (if bt241.2.2.2 = 0 then (if a0 = (-9223372036854775808) then (if ((t230 != 0) != (a1 == (-1))) = true then (some false) else (if t230 = 0 then (if (wrap64 ((wrap64 (t228 * a1)) + bt241.2.1)) = a0 then (hasplaw03_ArithWhole.j0 k a0 a1) else (some false)) else (hasplaw03_ArithWhole.j0 k a0 a1))) else (if ((t230 != 0) != false) = true then (some false) else (if t230 = 0 then (if (wrap64 ((wrap64 (t228 * a1)) + bt241.2.1)) = a0 then (hasplaw03_ArithWhole.j0 k a0 a1) else (some false)) else (hasplaw03_ArithWhole.j0 k a0 a1)))) else (some false))))) = some r := H
    have A8 := Aside0.mk A80
    clear A80
    replace H := Option.bind_eq_some_iff.mp H
    obtain ⟨⟨t235, t236, t237⟩, A90, H⟩ := H
    obtain ⟨rfl, rfl, rfl⟩ : t221 = t235 ∧ t222 = t236 ∧ t223 = t237 := by have q_ := Option.some.inj (A6.out.symm.trans A90); simpa only [Prod.mk.injEq] using q_
    replace H : ((arith_Do.f k 11 (([(⟨t218, t219, t220⟩ : S25), (⟨t221, t222, t223⟩ : S25)] : List (S25)))).bind fun bt241 => (if a1 = 0 then (if t230 = 32 then (if bt241.2.2.2 = 32 then (hasplaw03_ArithWhole.j0 k a0 a1) else (some false)) else (some false)) else (if bt241.2.2.2 = 0 then (if a0 = (-9223372036854775808) then (if ((t230 != 0) != (a1 == (-1))) = true then (some false) else (if t230 = 0 then (if (wrap64 ((wrap64 (t228 * a1)) + bt241.2.1)) = a0 then (hasplaw03_ArithWhole.j0 k a0 a1) else (some false)) else (hasplaw03_ArithWhole.j0 k a0 a1))) else (if ((t230 != 0) != false) = true then (some false) else (if t230 = 0 then (if (wrap64 ((wrap64 (t228 * a1)) + bt241.2.1)) = a0 then (hasplaw03_ArithWhole.j0 k a0 a1) else (some false)) else (hasplaw03_ArithWhole.j0 k a0 a1)))) else (some false)))) = some r := H
    have A9 := Aside0.mk A90
    clear A90
    obtain ⟨y238, hy238⟩ : ∃ y_ : List (S25), y_ = (([(⟨t218, t219, t220⟩ : S25), (⟨t221, t222, t223⟩ : S25)] : List (S25))) := ⟨_, rfl⟩
    replace H : ((arith_Do.f k 11 y238).bind fun bt241 => (if a1 = 0 then (if t230 = 32 then (if bt241.2.2.2 = 32 then (hasplaw03_ArithWhole.j0 k a0 a1) else (some false)) else (some false)) else (if bt241.2.2.2 = 0 then (if a0 = (-9223372036854775808) then (if ((t230 != 0) != (a1 == (-1))) = true then (some false) else (if t230 = 0 then (if (wrap64 ((wrap64 (t228 * a1)) + bt241.2.1)) = a0 then (hasplaw03_ArithWhole.j0 k a0 a1) else (some false)) else (hasplaw03_ArithWhole.j0 k a0 a1))) else (if ((t230 != 0) != false) = true then (some false) else (if t230 = 0 then (if (wrap64 ((wrap64 (t228 * a1)) + bt241.2.1)) = a0 then (hasplaw03_ArithWhole.j0 k a0 a1) else (some false)) else (hasplaw03_ArithWhole.j0 k a0 a1)))) else (some false)))) = some r := by first | (rw [hy238]; with_reducible exact H) | (have H2_ := (Option.bind_some _ _).symm.trans H; rw [hy238]; with_reducible exact H2_) | (have H2_ := (Option.bind_some _ _).symm.trans H; with_reducible exact H2_) | with_reducible exact H | (rw [hy238]; exact H) | exact H
    have Ny238 := Aside0.mk hy238
    clear hy238
    replace H := Option.bind_eq_some_iff.mp H
    obtain ⟨⟨t241, t242, t243, t244⟩, A100, H⟩ := H
    replace H : (if a1 = 0 then (if t230 = 32 then (if t244 = 32 then (hasplaw03_ArithWhole.j0 k a0 a1) else (some false)) else (some false)) else (if t244 = 0 then (if a0 = (-9223372036854775808) then (if ((t230 != 0) != (a1 == (-1))) = true then (some false) else (if t230 = 0 then (if (wrap64 ((wrap64 (t228 * a1)) + t242)) = a0 then (hasplaw03_ArithWhole.j0 k a0 a1) else (some false)) else (hasplaw03_ArithWhole.j0 k a0 a1))) else (if ((t230 != 0) != false) = true then (some false) else (if t230 = 0 then (if (wrap64 ((wrap64 (t228 * a1)) + t242)) = a0 then (hasplaw03_ArithWhole.j0 k a0 a1) else (some false)) else (hasplaw03_ArithWhole.j0 k a0 a1)))) else (some false))) = some r := H
    have A10 := Aside0.mk A100
    clear A100
    have HC11 := Aside0.mk H
    clear H
    go_enter Try.func7, Try.ntmps7
    go_upto_if 33 with (first | ((with_reducible refine gate_callee (f := 9) rfl ?_); refine goesL_ (some 12) rfl rfl Try.func9 (by kernel_rfl) rfl #[] rfl (by (try simp only [List.map_toArray, List.map_cons, List.map_nil]); first | done | rfl | (simp only [List.length_drop, List.length_take]; rfl)) ?_; (with_reducible refine (hasplaw03_speaks.calls  true _ A3.out).mono ?_); rintro e w12 ⟨rfl, hb⟩; refine ⟨_, rfl, ?_⟩; have n0_ := Aside0.mk (below_step (by repeat (first | (with_reducible first | exact HB.out | apply below_alloc | apply pw_below_drewN | apply below_drew1) | exact HB.out)) hb); clear HB; have HB := n0_; clear n0_; (try clear hb); (try clear hb2); (try clear hk); (try clear hi)) | ((with_reducible refine gate_callee (f := 17) rfl ?_); refine goesL_ (some 16) rfl rfl Try.func17 (by kernel_rfl) rfl #[.int .i64 a0] rfl (by (try simp only [List.map_toArray, List.map_cons, List.map_nil]); first | done | rfl | (simp only [List.length_drop, List.length_take]; rfl)) ?_; (with_reducible refine (hasplaw03_num.calls a0 t218 t219 t220 _ A5.out).mono ?_); rintro e w13 ⟨rfl, hb⟩; refine ⟨_, rfl, ?_⟩; have n0_ := Aside0.mk (below_step (by repeat (first | (with_reducible first | exact HB.out | apply below_alloc | apply pw_below_drewN | apply below_drew1) | exact HB.out)) hb); clear HB; have HB := n0_; clear n0_; (try clear hb); (try clear hb2); (try clear hk); (try clear hi)) | ((with_reducible refine gate_callee (f := 17) rfl ?_); refine goesL_ (some 18) rfl rfl Try.func17 (by kernel_rfl) rfl #[.int .i64 a1] rfl (by (try simp only [List.map_toArray, List.map_cons, List.map_nil]); first | done | rfl | (simp only [List.length_drop, List.length_take]; rfl)) ?_; (with_reducible refine (hasplaw03_num.calls a1 t221 t222 t223 _ A6.out).mono ?_); rintro e w14 ⟨rfl, hb⟩; refine ⟨_, rfl, ?_⟩; have n0_ := Aside0.mk (below_step (by repeat (first | (with_reducible first | exact HB.out | apply below_alloc | apply pw_below_drewN | apply below_drew1) | exact HB.out)) hb); clear HB; have HB := n0_; clear n0_; (try clear hb); (try clear hb2); (try clear hk); (try clear hi)) | ((with_reducible refine gate_dst (N := 19) rfl ?_); refine Kd.R_lit k25 _ 25 ?hg (N := 19) ?hd (xs := ([(⟨t218, t219, t220⟩ : S25), (⟨t221, t222, t223⟩ : S25)] : List (S25))) (inner := [.int .i64 t218, .int .i64 t219, .string t220, .int .i64 t221, .int .i64 t222, .string t223]) (ok := fun _ => True) (okp := fun _ => True) ?hr ?hp (fun _ hk => hk) trivial (Below.refl _ _) (Nat.le_refl _) (by simp) ?_; (case hd => rfl); (case hg => rfl); (case hr => first | (go_simp; done) | (go_simp; rfl)); (case hp => exact (Reps.c3 (show Kd.M k25 _ _ _ (⟨t218, t219, t220⟩ : S25) [.int .i64 t218, .int .i64 t219, .string t220] from (k25_mkM _ _ _ (⟨t218, t219, t220⟩ : S25) )) (Reps.c3 (show Kd.M k25 _ _ _ (⟨t221, t222, t223⟩ : S25) [.int .i64 t221, .int .i64 t222, .string t223] from (k25_mkM _ _ _ (⟨t221, t222, t223⟩ : S25) )) (Reps.none _ _)))); intro v225 w15 ho16 hb hg_ hnew_; clear hg_ hnew_; (first | rw [← Ny224.out] at ho16 | (simp only [Int.reduceToNat] at ho16; rw [← Ny224.out] at ho16)); have n0_ := Aside0.mk (Kd.R_lower ho16 (below_size (by repeat (first | (with_reducible first | exact HB.out | apply below_alloc | apply pw_below_drewN | apply below_drew1) | exact HB.out)))); have n1_ := Aside0.mk (below_step (by repeat (first | (with_reducible first | exact HB.out | apply below_alloc | apply pw_below_drewN | apply below_drew1) | exact HB.out)) hb); clear HB; have HO226 := n0_; have HB := n1_; clear n0_ n1_; clear hb ho16; obtain ⟨Ao17, co17, eo17⟩ := Kd.R_slice HO226.out; subst eo17) | ((with_reducible refine gate_callee (f := 12) rfl ?_); refine goesL_ (some 20) rfl rfl Try.func12 (by kernel_rfl) rfl #[.int .i64 10, .slice Ao17 y224.length co17] rfl (by (try simp only [List.map_toArray, List.map_cons, List.map_nil]); first | done | rfl | (simp only [List.length_drop, List.length_take]; rfl)) ?_; (with_reducible refine (arith_Do.calls k 10 _ _ y224 t227 t228 t229 t230 _ ?side1 ?side2 A7.out).mono ?_); (case side1 => repeat (first | exact (Kd.R_reads' HO226.out).2.2 | (with_reducible refine Kd.C_alloc ?_ _) | (with_reducible refine Kd.C_drewN ?_ _) | (with_reducible refine Kd.C_drew ?_))); (case side2 => exact (Kd.R_reads' HO226.out).2.1); rintro e w18 ⟨rfl, hb⟩; refine ⟨_, rfl, ?_⟩; have n0_ := Aside0.mk (Kd.R_below (by (with_reducible repeat (first | apply Kd.R_alloc | apply Kd.R_drewN | apply Kd.R_drew)); exact HO226.out) hb); have n1_ := Aside0.mk (below_step (by repeat (first | (with_reducible first | exact HB.out | apply below_alloc | apply pw_below_drewN | apply below_drew1) | exact HB.out)) hb); clear HO226; clear HB; have HO226 := n0_; have HB := n1_; clear n0_ n1_; (try clear hb); (try clear hb2); (try clear hk); (try clear hi)) | ((with_reducible refine gate_dst (N := 5) rfl ?_); refine box_event ?hg (N := 5) ?hd (cs := #[.int .i64 0, .int .i64 0, .string (⟨#[]⟩ : ByteArray)]) (t := 25) ?hr ?_; (case hd => rfl); (case hg => rfl); (case hr => first | (go_simp; done) | (go_simp; rfl)); intro gb231 hg w19 hbox hb; have n0_ := Aside0.mk (Kd.R_below (Kd.R_elderB (by (with_reducible repeat (first | apply Kd.R_alloc | apply Kd.R_drewN | apply Kd.R_drew)); exact HO226.out) gb231 (Nat.le_of_eq hg.symm)) hb); have n1_ := Aside0.mk (below_step (by repeat (first | (with_reducible first | exact HB.out | apply below_alloc | apply pw_below_drewN | apply below_drew1) | exact HB.out)) hb); have n2_ := Aside0.mk (hbox); have n3_ := Aside0.mk ((by rw [hg]; exact (below_size (by repeat (first | (with_reducible first | exact HB.out | apply below_alloc | apply pw_below_drewN | apply below_drew1) | exact HB.out))) : w.heap.size ≤ gb231)); have n4_ := Aside0.mk ((by rw [hg]; exact (below_size (by repeat (first | (with_reducible first | exact HB.out | apply below_alloc | apply pw_below_drewN | apply below_drew1) | exact HB.out))) : w.heap.size ≤ gb231)); clear HO226; clear HB; have HO226 := n0_; have HB := n1_; have BK231 := n2_; have GW231 := n3_; have GE231 := n4_; clear n0_ n1_ n2_ n3_ n4_; clear hb hbox hg; have hcz20_0 : w19.cell? ⟨gb231, 0, none⟩ = some (.int .i64 0) := (blk_cell BK231.out 0).trans rfl; have hcz20_1 : w19.cell? ⟨gb231, 1, none⟩ = some (.int .i64 0) := (blk_cell BK231.out 1).trans rfl; have hcz20_2 : w19.cell? ⟨gb231, 2, none⟩ = some (.string (⟨#[]⟩ : ByteArray)) := (blk_cell BK231.out 2).trans rfl; have hfz20_0 := blk_frozen BK231.out 0; have hfz20_1 := blk_frozen BK231.out 1; have hfz20_2 := blk_frozen BK231.out 2) | ((with_reducible refine gate_callee (f := 17) rfl ?_); refine goesL_ (some 25) rfl rfl Try.func17 (by kernel_rfl) rfl #[.int .i64 a0] rfl (by (try simp only [List.map_toArray, List.map_cons, List.map_nil]); first | done | rfl | (simp only [List.length_drop, List.length_take]; rfl)) ?_; (with_reducible refine (hasplaw03_num.calls a0 t218 t219 t220 _ A8.out).mono ?_); rintro e w21 ⟨rfl, hb⟩; refine ⟨_, rfl, ?_⟩; have n0_ := Aside0.mk (Kd.R_below (by (with_reducible repeat (first | apply Kd.R_alloc | apply Kd.R_drewN | apply Kd.R_drew)); exact (Kd.R_mono (Kd.R_far (p := ⟨gb231, 2, none⟩) (Kd.R_far (p := ⟨gb231, 1, none⟩) (Kd.R_far (p := ⟨gb231, 0, none⟩) (Kd.R_mono HO226.out (fun k_ hk => (⟨hk, hk.2⟩ : _ ∧ k_ ≠ gb231))) (fun _ hk => hk.2) (.int .i64 t227)) (fun _ hk => hk.2) (.int .i64 t228)) (fun _ hk => hk.2) (.string t229)) (fun _ h_ => h_.1))) hb); have n1_ := Aside0.mk (blk_below (g := gb231) (o := .cells #[.int .i64 t227, .int .i64 t228, .string t229] 25 (0, 0)) (by (with_reducible repeat (first | refine blk_drewN ?_ _ | refine blk_drew ?_ | refine blk_alloc ?_ _)); refine blk_put (cs := #[.int .i64 t227, .int .i64 t228, .string (⟨#[]⟩ : ByteArray)]) ?_ 2 _ rfl; (with_reducible repeat (first | refine blk_drewN ?_ _ | refine blk_drew ?_ | refine blk_alloc ?_ _)); refine blk_put (cs := #[.int .i64 t227, .int .i64 0, .string (⟨#[]⟩ : ByteArray)]) ?_ 1 _ rfl; (with_reducible repeat (first | refine blk_drewN ?_ _ | refine blk_drew ?_ | refine blk_alloc ?_ _)); refine blk_put (cs := #[.int .i64 0, .int .i64 0, .string (⟨#[]⟩ : ByteArray)]) ?_ 0 _ rfl; (with_reducible repeat (first | refine blk_drewN ?_ _ | refine blk_drew ?_ | refine blk_alloc ?_ _)); exact BK231.out) hb); have n2_ := Aside0.mk (below_step (by repeat (first | (with_reducible first | exact HB.out | apply below_alloc | apply pw_below_drewN | apply below_drew1 | refine below_set ?_ GE231.out) | exact HB.out)) hb); clear HO226; clear BK231; clear HB; have HO226 := n0_; have BK231 := n1_; have HB := n2_; clear n0_ n1_ n2_; (try clear hb); (try clear hb2); (try clear hk); (try clear hi)) | ((with_reducible refine gate_callee (f := 17) rfl ?_); refine goesL_ (some 27) rfl rfl Try.func17 (by kernel_rfl) rfl #[.int .i64 a1] rfl (by (try simp only [List.map_toArray, List.map_cons, List.map_nil]); first | done | rfl | (simp only [List.length_drop, List.length_take]; rfl)) ?_; (with_reducible refine (hasplaw03_num.calls a1 t221 t222 t223 _ A9.out).mono ?_); rintro e w22 ⟨rfl, hb⟩; refine ⟨_, rfl, ?_⟩; have n0_ := Aside0.mk (Kd.R_below (by (with_reducible repeat (first | apply Kd.R_alloc | apply Kd.R_drewN | apply Kd.R_drew)); exact HO226.out) hb); have n1_ := Aside0.mk (blk_below (g := gb231) (o := .cells #[.int .i64 t227, .int .i64 t228, .string t229] 25 (0, 0)) (by (with_reducible repeat (first | refine blk_drewN ?_ _ | refine blk_drew ?_ | refine blk_alloc ?_ _)); exact BK231.out) hb); have n2_ := Aside0.mk (below_step (by repeat (first | (with_reducible first | exact HB.out | apply below_alloc | apply pw_below_drewN | apply below_drew1 | refine below_set ?_ GE231.out) | exact HB.out)) hb); clear HO226; clear BK231; clear HB; have HO226 := n0_; have BK231 := n1_; have HB := n2_; clear n0_ n1_ n2_; (try clear hb); (try clear hb2); (try clear hk); (try clear hi)) | ((with_reducible refine gate_dst (N := 28) rfl ?_); refine Kd.R_lit k25 _ 25 ?hg (N := 28) ?hd (xs := ([(⟨t218, t219, t220⟩ : S25), (⟨t221, t222, t223⟩ : S25)] : List (S25))) (inner := [.int .i64 t218, .int .i64 t219, .string t220, .int .i64 t221, .int .i64 t222, .string t223]) (ok := fun _ => True) (okp := fun _ => True) ?hr ?hp (fun _ hk => hk) trivial (Below.refl _ _) (Nat.le_refl _) (by simp) ?_; (case hd => rfl); (case hg => rfl); (case hr => first | (go_simp; done) | (go_simp; rfl)); (case hp => exact (Reps.c3 (show Kd.M k25 _ _ _ (⟨t218, t219, t220⟩ : S25) [.int .i64 t218, .int .i64 t219, .string t220] from (k25_mkM _ _ _ (⟨t218, t219, t220⟩ : S25) )) (Reps.c3 (show Kd.M k25 _ _ _ (⟨t221, t222, t223⟩ : S25) [.int .i64 t221, .int .i64 t222, .string t223] from (k25_mkM _ _ _ (⟨t221, t222, t223⟩ : S25) )) (Reps.none _ _)))); intro v239 w23 ho24 hb hg_ hnew_; clear hg_ hnew_; (first | rw [← Ny238.out] at ho24 | (simp only [Int.reduceToNat] at ho24; rw [← Ny238.out] at ho24)); have n0_ := Aside0.mk (Kd.R_elder' (by (with_reducible repeat (first | apply Kd.R_alloc | apply Kd.R_drewN | apply Kd.R_drew)); exact HO226.out) (Kd.R_base ho24) hb); have n1_ := Aside0.mk (Kd.R_lower (Kd.R_newB (Kd.R_new' ho24 (Kd.R_lt (by (with_reducible repeat (first | apply Kd.R_alloc | apply Kd.R_drewN | apply Kd.R_drew)); exact HO226.out))) (g := gb231) (o := .cells #[.int .i64 t227, .int .i64 t228, .string t229] 25 (0, 0)) (by (with_reducible repeat (first | refine blk_drewN ?_ _ | refine blk_drew ?_ | refine blk_alloc ?_ _)); exact BK231.out)) (below_size (by repeat (first | (with_reducible first | exact HB.out | apply below_alloc | apply pw_below_drewN | apply below_drew1 | refine below_set ?_ GE231.out) | exact HB.out)))); have n2_ := Aside0.mk (blk_below (g := gb231) (o := .cells #[.int .i64 t227, .int .i64 t228, .string t229] 25 (0, 0)) (by (with_reducible repeat (first | refine blk_drewN ?_ _ | refine blk_drew ?_ | refine blk_alloc ?_ _)); exact BK231.out) hb); have n3_ := Aside0.mk (below_step (by repeat (first | (with_reducible first | exact HB.out | apply below_alloc | apply pw_below_drewN | apply below_drew1 | refine below_set ?_ GE231.out) | exact HB.out)) hb); clear HO226; clear BK231; clear HB; have HO226 := n0_; have HO240 := n1_; have BK231 := n2_; have HB := n3_; clear n0_ n1_ n2_ n3_; clear hb ho24; obtain ⟨Ao25, co25, eo25⟩ := Kd.R_slice HO240.out; subst eo25) | ((with_reducible refine gate_callee (f := 12) rfl ?_); refine goesL_ (some 29) rfl rfl Try.func12 (by kernel_rfl) rfl #[.int .i64 11, .slice Ao25 y238.length co25] rfl (by (try simp only [List.map_toArray, List.map_cons, List.map_nil]); first | done | rfl | (simp only [List.length_drop, List.length_take]; rfl)) ?_; (with_reducible refine (arith_Do.calls k 11 _ _ y238 t241 t242 t243 t244 _ ?side1 ?side2 A10.out).mono ?_); (case side1 => repeat (first | exact (Kd.R_reads' HO240.out).2.2 | (with_reducible refine Kd.C_alloc ?_ _) | (with_reducible refine Kd.C_drewN ?_ _) | (with_reducible refine Kd.C_drew ?_))); (case side2 => exact (Kd.R_reads' HO240.out).2.1); rintro e w26 ⟨rfl, hb⟩; refine ⟨_, rfl, ?_⟩; have n0_ := Aside0.mk (Kd.R_below (by (with_reducible repeat (first | apply Kd.R_alloc | apply Kd.R_drewN | apply Kd.R_drew)); exact HO226.out) hb); have n1_ := Aside0.mk (Kd.R_below (by (with_reducible repeat (first | apply Kd.R_alloc | apply Kd.R_drewN | apply Kd.R_drew)); exact HO240.out) hb); have n2_ := Aside0.mk (blk_below (g := gb231) (o := .cells #[.int .i64 t227, .int .i64 t228, .string t229] 25 (0, 0)) (by (with_reducible repeat (first | refine blk_drewN ?_ _ | refine blk_drew ?_ | refine blk_alloc ?_ _)); exact BK231.out) hb); have n3_ := Aside0.mk (below_step (by repeat (first | (with_reducible first | exact HB.out | apply below_alloc | apply pw_below_drewN | apply below_drew1 | refine below_set ?_ GE231.out) | exact HB.out)) hb); clear HO226; clear HO240; clear BK231; clear HB; have HO226 := n0_; have HO240 := n1_; have BK231 := n2_; have HB := n3_; clear n0_ n1_ n2_ n3_; (try clear hb); (try clear hb2); (try clear hk); (try clear hi)) | ((with_reducible refine gate_dst (N := 7) rfl ?_); refine box_event ?hg (N := 7) ?hd (cs := #[.int .i64 0, .int .i64 0, .string (⟨#[]⟩ : ByteArray)]) (t := 25) ?hr ?_; (case hd => rfl); (case hg => rfl); (case hr => first | (go_simp; done) | (go_simp; rfl)); intro gb245 hg w27 hbox hb; have n0_ := Aside0.mk (Kd.R_below (Kd.R_elderB (by (with_reducible repeat (first | apply Kd.R_alloc | apply Kd.R_drewN | apply Kd.R_drew)); exact HO226.out) gb245 (Nat.le_of_eq hg.symm)) hb); have n1_ := Aside0.mk (Kd.R_below (Kd.R_elderB (by (with_reducible repeat (first | apply Kd.R_alloc | apply Kd.R_drewN | apply Kd.R_drew)); exact HO240.out) gb245 (Nat.le_of_eq hg.symm)) hb); have n2_ := Aside0.mk (blk_below (g := gb231) (o := .cells #[.int .i64 t227, .int .i64 t228, .string t229] 25 (0, 0)) (by (with_reducible repeat (first | refine blk_drewN ?_ _ | refine blk_drew ?_ | refine blk_alloc ?_ _)); exact BK231.out) hb); have n3_ := Aside0.mk (below_step (by repeat (first | (with_reducible first | exact HB.out | apply below_alloc | apply pw_below_drewN | apply below_drew1 | refine below_set ?_ GE231.out) | exact HB.out)) hb); have n4_ := Aside0.mk (hbox); have n5_ := Aside0.mk ((by rw [hg]; exact (below_size (by repeat (first | (with_reducible first | exact HB.out | apply below_alloc | apply pw_below_drewN | apply below_drew1 | refine below_set ?_ GE231.out) | exact HB.out))) : w.heap.size ≤ gb245)); have n6_ := Aside0.mk ((by rw [hg]; exact (below_size (by repeat (first | (with_reducible first | exact HB.out | apply below_alloc | apply pw_below_drewN | apply below_drew1 | refine below_set ?_ GE231.out) | exact HB.out))) : w.heap.size ≤ gb245)); have n7_ := Aside0.mk ((by rw [hg]; exact Nat.ne_of_lt (blk_lt (g := gb231) (o := .cells #[.int .i64 t227, .int .i64 t228, .string t229] 25 (0, 0)) (by (with_reducible repeat (first | refine blk_drewN ?_ _ | refine blk_drew ?_ | refine blk_alloc ?_ _)); exact BK231.out)) : gb231 ≠ gb245)); have n8_ := Aside0.mk ((by rw [hg]; exact Nat.ne_of_gt (blk_lt (g := gb231) (o := .cells #[.int .i64 t227, .int .i64 t228, .string t229] 25 (0, 0)) (by (with_reducible repeat (first | refine blk_drewN ?_ _ | refine blk_drew ?_ | refine blk_alloc ?_ _)); exact BK231.out)) : gb245 ≠ gb231)); clear HO226; clear HO240; clear BK231; clear HB; have HO226 := n0_; have HO240 := n1_; have BK231 := n2_; have HB := n3_; have BK245 := n4_; have GW245 := n5_; have GE245 := n6_; have NB231_245 := n7_; have NB245_231 := n8_; clear n0_ n1_ n2_ n3_ n4_ n5_ n6_ n7_ n8_; clear hb hbox hg; have hnb28 := NB245_231.out; have hnc28 := NB231_245.out; have hcz29_0 : w27.cell? ⟨gb245, 0, none⟩ = some (.int .i64 0) := (blk_cell BK245.out 0).trans rfl; have hcz29_1 : w27.cell? ⟨gb245, 1, none⟩ = some (.int .i64 0) := (blk_cell BK245.out 1).trans rfl; have hcz29_2 : w27.cell? ⟨gb245, 2, none⟩ = some (.string (⟨#[]⟩ : ByteArray)) := (blk_cell BK245.out 2).trans rfl; have hfz29_0 := blk_frozen BK245.out 0; have hfz29_1 := blk_frozen BK245.out 1; have hfz29_2 := blk_frozen BK245.out 2))
    (try simp only [Act.put, List.setIfInBounds_toArray, List.set_cons_zero, List.set_cons_succ])
    go_cut [] (fun wc => ∃ (kq : Nat), Aside0 (hasplaw03_ArithWhole.j0 kq a0 a1 = some r) ∧ Aside0 (kq ≤ k) ∧ Aside0 (wc.heap[gb231]? = some (.cells #[.int .i64 t227, .int .i64 t228, .string t229] 25 (0, 0))) ∧ Aside0 (wc.heap[gb245]? = some (.cells #[.int .i64 t241, .int .i64 t242, .string t243] 25 (0, 0))) ∧ Aside0 (Below w.heap.size w wc))
    case first =>
      have H := HC11.out
      clear HC11
      by_cases c30 : a1 = 0
      · rw [if_pos c30] at H
        have c30b0 : (a1 == 0) = true := beq_iff_eq.mpr c30
        have c30b1 : (a1 != 0) = false := bne_eq_false_iff_eq.mpr c30
        clear c30
        (first | rw [c30b0] | (simp only [i64_w, i32_w]; rw [c30b0]) | skip)
        by_cases c31 : t230 = 32
        · rw [if_pos c31] at H
          have c31b0 : (t230 == 32) = true := beq_iff_eq.mpr c31
          have c31b1 : (t230 != 32) = false := bne_eq_false_iff_eq.mpr c31
          clear c31
          by_cases c32 : t244 = 32
          · rw [if_pos c32] at H
            have c32b0 : (t244 == 32) = true := beq_iff_eq.mpr c32
            have c32b1 : (t244 != 32) = false := bne_eq_false_iff_eq.mpr c32
            clear c32
            have H' := Aside0.mk H
            clear H
            go_wp2
            go_meet
            case rel => exact ⟨_, H', ⟨by first | omega | exact Nat.le_refl _⟩, ⟨by (with_reducible repeat (first | refine blk_drewN ?_ _ | refine blk_drew ?_ | refine blk_alloc ?_ _)); refine blk_far ?_ NB231_245.out _; (with_reducible repeat (first | refine blk_drewN ?_ _ | refine blk_drew ?_ | refine blk_alloc ?_ _)); refine blk_far ?_ NB231_245.out _; (with_reducible repeat (first | refine blk_drewN ?_ _ | refine blk_drew ?_ | refine blk_alloc ?_ _)); refine blk_far ?_ NB231_245.out _; (with_reducible repeat (first | refine blk_drewN ?_ _ | refine blk_drew ?_ | refine blk_alloc ?_ _)); exact BK231.out⟩, ⟨by (with_reducible repeat (first | refine blk_drewN ?_ _ | refine blk_drew ?_ | refine blk_alloc ?_ _)); refine blk_put (cs := #[.int .i64 t241, .int .i64 t242, .string (⟨#[]⟩ : ByteArray)]) ?_ 2 _ rfl; (with_reducible repeat (first | refine blk_drewN ?_ _ | refine blk_drew ?_ | refine blk_alloc ?_ _)); refine blk_put (cs := #[.int .i64 t241, .int .i64 0, .string (⟨#[]⟩ : ByteArray)]) ?_ 1 _ rfl; (with_reducible repeat (first | refine blk_drewN ?_ _ | refine blk_drew ?_ | refine blk_alloc ?_ _)); refine blk_put (cs := #[.int .i64 0, .int .i64 0, .string (⟨#[]⟩ : ByteArray)]) ?_ 0 _ rfl; (with_reducible repeat (first | refine blk_drewN ?_ _ | refine blk_drew ?_ | refine blk_alloc ?_ _)); exact BK245.out⟩, ⟨by repeat (first | (with_reducible first | exact HB.out | apply below_alloc | apply pw_below_drewN | apply below_drew1 | refine below_set ?_ GE231.out | refine below_set ?_ GE245.out) | exact HB.out)⟩⟩
          · rw [if_neg c32] at H
            have c32b0 : (t244 == 32) = false := beq_eq_false_iff_ne.mpr c32
            have c32b1 : (t244 != 32) = true := bne_iff_ne.mpr c32
            obtain rfl := Option.some.inj H
            exact absurd hr Bool.false_ne_true
        · rw [if_neg c31] at H
          have c31b0 : (t230 == 32) = false := beq_eq_false_iff_ne.mpr c31
          have c31b1 : (t230 != 32) = true := bne_iff_ne.mpr c31
          obtain rfl := Option.some.inj H
          exact absurd hr Bool.false_ne_true
      · rw [if_neg c30] at H
        have c30b0 : (a1 == 0) = false := beq_eq_false_iff_ne.mpr c30
        have c30b1 : (a1 != 0) = true := bne_iff_ne.mpr c30
        (first | rw [c30b0] | (simp only [i64_w, i32_w]; rw [c30b0]) | skip)
        by_cases c33 : t244 = 0
        · rw [if_pos c33] at H
          have c33b0 : (t244 == 0) = true := beq_iff_eq.mpr c33
          have c33b1 : (t244 != 0) = false := bne_eq_false_iff_eq.mpr c33
          clear c33
          by_cases c34 : a0 = (-9223372036854775808)
          · rw [if_pos c34] at H
            have c34b0 : (a0 == (-9223372036854775808)) = true := beq_iff_eq.mpr c34
            have c34b1 : (a0 != (-9223372036854775808)) = false := bne_eq_false_iff_eq.mpr c34
            clear c34
            by_cases c35 : ((t230 != 0) != (a1 == (-1))) = true
            · rw [if_pos c35] at H
              have c35b0 : ((t230 != 0) != (a1 == (-1))) = true := c35
              (try (have c35b1 : decide ((t230 != 0) = (a1 == (-1))) = false := by simpa using c35))
              (try (have c35b2 : ((t230 != 0) == (a1 == (-1))) = false := by simpa using c35))
              (try (have c35b3 : ¬ ((t230 != 0) = (a1 == (-1))) := by simpa using c35))
              clear c35
              obtain rfl := Option.some.inj H
              exact absurd hr Bool.false_ne_true
            · rw [if_neg c35] at H
              have c35b0 : ((t230 != 0) != (a1 == (-1))) = false := by simpa using c35
              (try (have c35b1 : decide ((t230 != 0) = (a1 == (-1))) = true := by simpa using c35))
              (try (have c35b2 : ((t230 != 0) == (a1 == (-1))) = true := by simpa using c35))
              clear c35
              by_cases c36 : t230 = 0
              · rw [if_pos c36] at H
                have c36b0 : (t230 == 0) = true := beq_iff_eq.mpr c36
                have c36b1 : (t230 != 0) = false := bne_eq_false_iff_eq.mpr c36
                clear c36
                by_cases c37 : (wrap64 ((wrap64 (t228 * a1)) + t242)) = a0
                · rw [if_pos c37] at H
                  have c37b0 : ((wrap64 ((wrap64 (t228 * a1)) + t242)) == a0) = true := beq_iff_eq.mpr c37
                  have c37b1 : ((wrap64 ((wrap64 (t228 * a1)) + t242)) != a0) = false := bne_eq_false_iff_eq.mpr c37
                  clear c37
                  have H' := Aside0.mk H
                  clear H
                  have hnb38 := NB231_245.out
                  have hnc38 := NB245_231.out
                  have hcz39_0 : w27.cell? ⟨gb231, 0, none⟩ = some (.int .i64 t227) := (blk_cell BK231.out 0).trans rfl
                  have hcz39_1 : w27.cell? ⟨gb231, 1, none⟩ = some (.int .i64 t228) := (blk_cell BK231.out 1).trans rfl
                  have hcz39_2 : w27.cell? ⟨gb231, 2, none⟩ = some (.string t229) := (blk_cell BK231.out 2).trans rfl
                  have hfz39_0 := blk_frozen BK231.out 0
                  have hfz39_1 := blk_frozen BK231.out 1
                  have hfz39_2 := blk_frozen BK231.out 2
                  have hcz40_0 : w27.cell? ⟨gb245, 0, none⟩ = some (.int .i64 0) := (blk_cell BK245.out 0).trans rfl
                  have hcz40_1 : w27.cell? ⟨gb245, 1, none⟩ = some (.int .i64 0) := (blk_cell BK245.out 1).trans rfl
                  have hcz40_2 : w27.cell? ⟨gb245, 2, none⟩ = some (.string (⟨#[]⟩ : ByteArray)) := (blk_cell BK245.out 2).trans rfl
                  have hfz40_0 := blk_frozen BK245.out 0
                  have hfz40_1 := blk_frozen BK245.out 1
                  have hfz40_2 := blk_frozen BK245.out 2
                  have qa_ : (a1 == (-1)) = false := by rw [c36b1] at c35b0; simpa using c35b0
                  go_wp2
                  go_meet
                  case rel => exact ⟨_, H', ⟨by first | omega | exact Nat.le_refl _⟩, ⟨by (with_reducible repeat (first | refine blk_drewN ?_ _ | refine blk_drew ?_ | refine blk_alloc ?_ _)); refine blk_far ?_ NB231_245.out _; (with_reducible repeat (first | refine blk_drewN ?_ _ | refine blk_drew ?_ | refine blk_alloc ?_ _)); refine blk_far ?_ NB231_245.out _; (with_reducible repeat (first | refine blk_drewN ?_ _ | refine blk_drew ?_ | refine blk_alloc ?_ _)); refine blk_far ?_ NB231_245.out _; (with_reducible repeat (first | refine blk_drewN ?_ _ | refine blk_drew ?_ | refine blk_alloc ?_ _)); exact BK231.out⟩, ⟨by (with_reducible repeat (first | refine blk_drewN ?_ _ | refine blk_drew ?_ | refine blk_alloc ?_ _)); refine blk_put (cs := #[.int .i64 t241, .int .i64 t242, .string (⟨#[]⟩ : ByteArray)]) ?_ 2 _ rfl; (with_reducible repeat (first | refine blk_drewN ?_ _ | refine blk_drew ?_ | refine blk_alloc ?_ _)); refine blk_put (cs := #[.int .i64 t241, .int .i64 0, .string (⟨#[]⟩ : ByteArray)]) ?_ 1 _ rfl; (with_reducible repeat (first | refine blk_drewN ?_ _ | refine blk_drew ?_ | refine blk_alloc ?_ _)); refine blk_put (cs := #[.int .i64 0, .int .i64 0, .string (⟨#[]⟩ : ByteArray)]) ?_ 0 _ rfl; (with_reducible repeat (first | refine blk_drewN ?_ _ | refine blk_drew ?_ | refine blk_alloc ?_ _)); exact BK245.out⟩, ⟨by repeat (first | (with_reducible first | exact HB.out | apply below_alloc | apply pw_below_drewN | apply below_drew1 | refine below_set ?_ GE231.out | refine below_set ?_ GE245.out) | exact HB.out)⟩⟩
                · rw [if_neg c37] at H
                  have c37b0 : ((wrap64 ((wrap64 (t228 * a1)) + t242)) == a0) = false := beq_eq_false_iff_ne.mpr c37
                  have c37b1 : ((wrap64 ((wrap64 (t228 * a1)) + t242)) != a0) = true := bne_iff_ne.mpr c37
                  obtain rfl := Option.some.inj H
                  exact absurd hr Bool.false_ne_true
              · rw [if_neg c36] at H
                have c36b0 : (t230 == 0) = false := beq_eq_false_iff_ne.mpr c36
                have c36b1 : (t230 != 0) = true := bne_iff_ne.mpr c36
                have H' := Aside0.mk H
                clear H
                have qa_ : (a1 == (-1)) = true := by rw [c36b1] at c35b0; simpa using c35b0
                go_wp2
                go_meet
                case rel => exact ⟨_, H', ⟨by first | omega | exact Nat.le_refl _⟩, ⟨by (with_reducible repeat (first | refine blk_drewN ?_ _ | refine blk_drew ?_ | refine blk_alloc ?_ _)); refine blk_far ?_ NB231_245.out _; (with_reducible repeat (first | refine blk_drewN ?_ _ | refine blk_drew ?_ | refine blk_alloc ?_ _)); refine blk_far ?_ NB231_245.out _; (with_reducible repeat (first | refine blk_drewN ?_ _ | refine blk_drew ?_ | refine blk_alloc ?_ _)); refine blk_far ?_ NB231_245.out _; (with_reducible repeat (first | refine blk_drewN ?_ _ | refine blk_drew ?_ | refine blk_alloc ?_ _)); exact BK231.out⟩, ⟨by (with_reducible repeat (first | refine blk_drewN ?_ _ | refine blk_drew ?_ | refine blk_alloc ?_ _)); refine blk_put (cs := #[.int .i64 t241, .int .i64 t242, .string (⟨#[]⟩ : ByteArray)]) ?_ 2 _ rfl; (with_reducible repeat (first | refine blk_drewN ?_ _ | refine blk_drew ?_ | refine blk_alloc ?_ _)); refine blk_put (cs := #[.int .i64 t241, .int .i64 0, .string (⟨#[]⟩ : ByteArray)]) ?_ 1 _ rfl; (with_reducible repeat (first | refine blk_drewN ?_ _ | refine blk_drew ?_ | refine blk_alloc ?_ _)); refine blk_put (cs := #[.int .i64 0, .int .i64 0, .string (⟨#[]⟩ : ByteArray)]) ?_ 0 _ rfl; (with_reducible repeat (first | refine blk_drewN ?_ _ | refine blk_drew ?_ | refine blk_alloc ?_ _)); exact BK245.out⟩, ⟨by repeat (first | (with_reducible first | exact HB.out | apply below_alloc | apply pw_below_drewN | apply below_drew1 | refine below_set ?_ GE231.out | refine below_set ?_ GE245.out) | exact HB.out)⟩⟩
          · rw [if_neg c34] at H
            have c34b0 : (a0 == (-9223372036854775808)) = false := beq_eq_false_iff_ne.mpr c34
            have c34b1 : (a0 != (-9223372036854775808)) = true := bne_iff_ne.mpr c34
            by_cases c44 : ((t230 != 0) != false) = true
            · rw [if_pos c44] at H
              have c44b0 : ((t230 != 0) != false) = true := c44
              (try (have c44b1 : decide ((t230 != 0) = false) = false := by simpa using c44))
              (try (have c44b2 : ((t230 != 0) == false) = false := by simpa using c44))
              (try (have c44b3 : ¬ ((t230 != 0) = false) := by simpa using c44))
              clear c44
              obtain rfl := Option.some.inj H
              exact absurd hr Bool.false_ne_true
            · rw [if_neg c44] at H
              have c44b0 : ((t230 != 0) != false) = false := by simpa using c44
              (try (have c44b1 : decide ((t230 != 0) = false) = true := by simpa using c44))
              (try (have c44b2 : ((t230 != 0) == false) = true := by simpa using c44))
              clear c44
              by_cases c45 : t230 = 0
              · rw [if_pos c45] at H
                have c45b0 : (t230 == 0) = true := beq_iff_eq.mpr c45
                have c45b1 : (t230 != 0) = false := bne_eq_false_iff_eq.mpr c45
                clear c45
                by_cases c46 : (wrap64 ((wrap64 (t228 * a1)) + t242)) = a0
                · rw [if_pos c46] at H
                  have c46b0 : ((wrap64 ((wrap64 (t228 * a1)) + t242)) == a0) = true := beq_iff_eq.mpr c46
                  have c46b1 : ((wrap64 ((wrap64 (t228 * a1)) + t242)) != a0) = false := bne_eq_false_iff_eq.mpr c46
                  clear c46
                  have H' := Aside0.mk H
                  clear H
                  have hnb47 := NB231_245.out
                  have hnc47 := NB245_231.out
                  have hcz48_0 : w27.cell? ⟨gb231, 0, none⟩ = some (.int .i64 t227) := (blk_cell BK231.out 0).trans rfl
                  have hcz48_1 : w27.cell? ⟨gb231, 1, none⟩ = some (.int .i64 t228) := (blk_cell BK231.out 1).trans rfl
                  have hcz48_2 : w27.cell? ⟨gb231, 2, none⟩ = some (.string t229) := (blk_cell BK231.out 2).trans rfl
                  have hfz48_0 := blk_frozen BK231.out 0
                  have hfz48_1 := blk_frozen BK231.out 1
                  have hfz48_2 := blk_frozen BK231.out 2
                  have hcz49_0 : w27.cell? ⟨gb245, 0, none⟩ = some (.int .i64 0) := (blk_cell BK245.out 0).trans rfl
                  have hcz49_1 : w27.cell? ⟨gb245, 1, none⟩ = some (.int .i64 0) := (blk_cell BK245.out 1).trans rfl
                  have hcz49_2 : w27.cell? ⟨gb245, 2, none⟩ = some (.string (⟨#[]⟩ : ByteArray)) := (blk_cell BK245.out 2).trans rfl
                  have hfz49_0 := blk_frozen BK245.out 0
                  have hfz49_1 := blk_frozen BK245.out 1
                  have hfz49_2 := blk_frozen BK245.out 2
                  go_wp2
                  go_meet
                  case rel => exact ⟨_, H', ⟨by first | omega | exact Nat.le_refl _⟩, ⟨by (with_reducible repeat (first | refine blk_drewN ?_ _ | refine blk_drew ?_ | refine blk_alloc ?_ _)); refine blk_far ?_ NB231_245.out _; (with_reducible repeat (first | refine blk_drewN ?_ _ | refine blk_drew ?_ | refine blk_alloc ?_ _)); refine blk_far ?_ NB231_245.out _; (with_reducible repeat (first | refine blk_drewN ?_ _ | refine blk_drew ?_ | refine blk_alloc ?_ _)); refine blk_far ?_ NB231_245.out _; (with_reducible repeat (first | refine blk_drewN ?_ _ | refine blk_drew ?_ | refine blk_alloc ?_ _)); exact BK231.out⟩, ⟨by (with_reducible repeat (first | refine blk_drewN ?_ _ | refine blk_drew ?_ | refine blk_alloc ?_ _)); refine blk_put (cs := #[.int .i64 t241, .int .i64 t242, .string (⟨#[]⟩ : ByteArray)]) ?_ 2 _ rfl; (with_reducible repeat (first | refine blk_drewN ?_ _ | refine blk_drew ?_ | refine blk_alloc ?_ _)); refine blk_put (cs := #[.int .i64 t241, .int .i64 0, .string (⟨#[]⟩ : ByteArray)]) ?_ 1 _ rfl; (with_reducible repeat (first | refine blk_drewN ?_ _ | refine blk_drew ?_ | refine blk_alloc ?_ _)); refine blk_put (cs := #[.int .i64 0, .int .i64 0, .string (⟨#[]⟩ : ByteArray)]) ?_ 0 _ rfl; (with_reducible repeat (first | refine blk_drewN ?_ _ | refine blk_drew ?_ | refine blk_alloc ?_ _)); exact BK245.out⟩, ⟨by repeat (first | (with_reducible first | exact HB.out | apply below_alloc | apply pw_below_drewN | apply below_drew1 | refine below_set ?_ GE231.out | refine below_set ?_ GE245.out) | exact HB.out)⟩⟩
                · rw [if_neg c46] at H
                  have c46b0 : ((wrap64 ((wrap64 (t228 * a1)) + t242)) == a0) = false := beq_eq_false_iff_ne.mpr c46
                  have c46b1 : ((wrap64 ((wrap64 (t228 * a1)) + t242)) != a0) = true := bne_iff_ne.mpr c46
                  obtain rfl := Option.some.inj H
                  exact absurd hr Bool.false_ne_true
              · rw [if_neg c45] at H
                have c45b0 : (t230 == 0) = false := beq_eq_false_iff_ne.mpr c45
                have c45b1 : (t230 != 0) = true := bne_iff_ne.mpr c45
                have H' := Aside0.mk H
                clear H
                exact absurd c44b0 (by rw [c45b1]; decide)
        · rw [if_neg c33] at H
          have c33b0 : (t244 == 0) = false := beq_eq_false_iff_ne.mpr c33
          have c33b1 : (t244 != 0) = true := bne_iff_ne.mpr c33
          obtain rfl := Option.some.inj H
          exact absurd hr Bool.false_ne_true
    case rest =>
      clear HC11
      try clear c1
      try clear c2
      try clear p2
      try clear c3
      try clear c4
      try clear c5
      try clear p6
      try clear c7
      try clear c9
      try clear c12
      try clear c17
      try clear c28
      try clear c30
      try clear c30b0
      try clear c30b1
      try clear c31
      try clear c31b0
      try clear c31b1
      try clear c32
      try clear c32b0
      try clear c32b1
      try clear c33
      try clear c33b0
      try clear c33b1
      try clear c34
      try clear c34b0
      try clear c34b1
      try clear c35
      try clear c35b0
      try clear c35b1
      try clear c35b2
      try clear c36
      try clear c36b0
      try clear c36b1
      try clear c37
      try clear c37b0
      try clear c37b1
      try clear c38
      try clear c41
      try clear c44
      try clear c44b0
      try clear c44b1
      try clear c44b2
      try clear c45
      try clear c45b0
      try clear c45b1
      try clear c46
      try clear c46b0
      try clear c46b1
      try clear c47
      try clear c50
      try clear hcz20_0
      try clear hcz20_1
      try clear hcz20_2
      try clear hcz29_0
      try clear hcz29_1
      try clear hcz29_2
      try clear hcz39_0
      try clear hcz39_1
      try clear hcz39_2
      try clear hcz40_0
      try clear hcz40_1
      try clear hcz40_2
      try clear hcz42_0
      try clear hcz42_1
      try clear hcz42_2
      try clear hcz43_0
      try clear hcz43_1
      try clear hcz43_2
      try clear hcz48_0
      try clear hcz48_1
      try clear hcz48_2
      try clear hcz49_0
      try clear hcz49_1
      try clear hcz49_2
      try clear hcz51_0
      try clear hcz51_1
      try clear hcz51_2
      try clear hcz52_0
      try clear hcz52_1
      try clear hcz52_2
      try clear hfz20_0
      try clear hfz20_1
      try clear hfz20_2
      try clear hfz29_0
      try clear hfz29_1
      try clear hfz29_2
      try clear hfz39_0
      try clear hfz39_1
      try clear hfz39_2
      try clear hfz40_0
      try clear hfz40_1
      try clear hfz40_2
      try clear hfz42_0
      try clear hfz42_1
      try clear hfz42_2
      try clear hfz43_0
      try clear hfz43_1
      try clear hfz43_2
      try clear hfz48_0
      try clear hfz48_1
      try clear hfz48_2
      try clear hfz49_0
      try clear hfz49_1
      try clear hfz49_2
      try clear hfz51_0
      try clear hfz51_1
      try clear hfz51_2
      try clear hfz52_0
      try clear hfz52_1
      try clear hfz52_2
      obtain ⟨kq, HA, HJ10, BK231, BK245, HB⟩ := hcut
      cases kq with
      | zero => exact absurd HA.out (by simp [hasplaw03_ArithWhole.j0])
      | succ kj10 =>
        have H := HA.out
        clear HA
        simp only [hasplaw03_ArithWhole.j0] at H
        replace H := Option.bind_eq_some_iff.mp H
        obtain ⟨⟨t246, t247, t248⟩, A530, H⟩ := H
        replace H : ((hasplaw03_num.f a1).bind fun bt249 => ((arith_Do.f kj10 7 (([(⟨t246, t247, t248⟩ : S25), (⟨bt249.1, bt249.2.1, bt249.2.2⟩ : S25)] : List (S25)))).bind fun bt255 => (if bt255.2.2.2 = 0 then ((hasplaw03_num.f a1).bind fun bt260 => ((arith_Do.f kj10 8 (([(⟨bt255.1, bt255.2.1, bt255.2.2.1⟩ : S25), (⟨bt260.1, bt260.2.1, bt260.2.2⟩ : S25)] : List (S25)))).bind fun bt266 => (if bt266.2.2.2 = 0 then ((hasplaw03_num.f a0).bind fun bt271 => (some (bt266.1 == bt271.1 && (bt266.2.1 == bt271.2.1 && (bt266.2.2.1.toList == bt271.2.2.toList))))) else (some false)))) else (if bt255.2.2.2 = 31 then (if ((decide (a0 < 0)) == (decide (a1 < 0))) = true then (if a0 = 0 then (some false) else (some (a1 != 0))) else (some false)) else (some false))))) = some r := H
        have A53 := Aside0.mk A530
        clear A530
        replace H := Option.bind_eq_some_iff.mp H
        obtain ⟨⟨t249, t250, t251⟩, A540, H⟩ := H
        obtain ⟨rfl, rfl, rfl⟩ : t221 = t249 ∧ t222 = t250 ∧ t223 = t251 := by have q_ := Option.some.inj (A6.out.symm.trans A540); simpa only [Prod.mk.injEq] using q_
        replace H : ((arith_Do.f kj10 7 (([(⟨t246, t247, t248⟩ : S25), (⟨t221, t222, t223⟩ : S25)] : List (S25)))).bind fun bt255 => (if bt255.2.2.2 = 0 then ((hasplaw03_num.f a1).bind fun bt260 => ((arith_Do.f kj10 8 (([(⟨bt255.1, bt255.2.1, bt255.2.2.1⟩ : S25), (⟨bt260.1, bt260.2.1, bt260.2.2⟩ : S25)] : List (S25)))).bind fun bt266 => (if bt266.2.2.2 = 0 then ((hasplaw03_num.f a0).bind fun bt271 => (some (bt266.1 == bt271.1 && (bt266.2.1 == bt271.2.1 && (bt266.2.2.1.toList == bt271.2.2.toList))))) else (some false)))) else (if bt255.2.2.2 = 31 then (if ((decide (a0 < 0)) == (decide (a1 < 0))) = true then (if a0 = 0 then (some false) else (some (a1 != 0))) else (some false)) else (some false)))) = some r := H
        have A54 := Aside0.mk A540
        clear A540
        obtain ⟨y252, hy252⟩ : ∃ y_ : List (S25), y_ = (([(⟨t246, t247, t248⟩ : S25), (⟨t221, t222, t223⟩ : S25)] : List (S25))) := ⟨_, rfl⟩
        replace H : ((arith_Do.f kj10 7 y252).bind fun bt255 => (if bt255.2.2.2 = 0 then ((hasplaw03_num.f a1).bind fun bt260 => ((arith_Do.f kj10 8 (([(⟨bt255.1, bt255.2.1, bt255.2.2.1⟩ : S25), (⟨bt260.1, bt260.2.1, bt260.2.2⟩ : S25)] : List (S25)))).bind fun bt266 => (if bt266.2.2.2 = 0 then ((hasplaw03_num.f a0).bind fun bt271 => (some (bt266.1 == bt271.1 && (bt266.2.1 == bt271.2.1 && (bt266.2.2.1.toList == bt271.2.2.toList))))) else (some false)))) else (if bt255.2.2.2 = 31 then (if ((decide (a0 < 0)) == (decide (a1 < 0))) = true then (if a0 = 0 then (some false) else (some (a1 != 0))) else (some false)) else (some false)))) = some r := by first | (rw [hy252]; with_reducible exact H) | (have H2_ := (Option.bind_some _ _).symm.trans H; rw [hy252]; with_reducible exact H2_) | (have H2_ := (Option.bind_some _ _).symm.trans H; with_reducible exact H2_) | with_reducible exact H | (rw [hy252]; exact H) | exact H
        have Ny252 := Aside0.mk hy252
        clear hy252
        replace H := Option.bind_eq_some_iff.mp H
        obtain ⟨⟨t255, t256, t257, t258⟩, A550, H⟩ := H
        replace H : (if t258 = 0 then ((hasplaw03_num.f a1).bind fun bt260 => ((arith_Do.f kj10 8 (([(⟨t255, t256, t257⟩ : S25), (⟨bt260.1, bt260.2.1, bt260.2.2⟩ : S25)] : List (S25)))).bind fun bt266 => (if bt266.2.2.2 = 0 then ((hasplaw03_num.f a0).bind fun bt271 => (some (bt266.1 == bt271.1 && (bt266.2.1 == bt271.2.1 && (bt266.2.2.1.toList == bt271.2.2.toList))))) else (some false)))) else (if t258 = 31 then (if ((decide (a0 < 0)) == (decide (a1 < 0))) = true then (if a0 = 0 then (some false) else (some (a1 != 0))) else (some false)) else (some false))) = some r := H
        have A55 := Aside0.mk A550
        clear A550
        by_cases c56 : t258 = 0
        · rw [if_pos c56] at H
          have c56b0 : (t258 == 0) = true := beq_iff_eq.mpr c56
          have c56b1 : (t258 != 0) = false := bne_eq_false_iff_eq.mpr c56
          clear c56
          replace H := Option.bind_eq_some_iff.mp H
          obtain ⟨⟨t260, t261, t262⟩, A570, H⟩ := H
          obtain ⟨rfl, rfl, rfl⟩ : t221 = t260 ∧ t222 = t261 ∧ t223 = t262 := by have q_ := Option.some.inj (A6.out.symm.trans A570); simpa only [Prod.mk.injEq] using q_
          replace H : ((arith_Do.f kj10 8 (([(⟨t255, t256, t257⟩ : S25), (⟨t221, t222, t223⟩ : S25)] : List (S25)))).bind fun bt266 => (if bt266.2.2.2 = 0 then ((hasplaw03_num.f a0).bind fun bt271 => (some (bt266.1 == bt271.1 && (bt266.2.1 == bt271.2.1 && (bt266.2.2.1.toList == bt271.2.2.toList))))) else (some false))) = some r := H
          have A57 := Aside0.mk A570
          clear A570
          obtain ⟨y263, hy263⟩ : ∃ y_ : List (S25), y_ = (([(⟨t255, t256, t257⟩ : S25), (⟨t221, t222, t223⟩ : S25)] : List (S25))) := ⟨_, rfl⟩
          replace H : ((arith_Do.f kj10 8 y263).bind fun bt266 => (if bt266.2.2.2 = 0 then ((hasplaw03_num.f a0).bind fun bt271 => (some (bt266.1 == bt271.1 && (bt266.2.1 == bt271.2.1 && (bt266.2.2.1.toList == bt271.2.2.toList))))) else (some false))) = some r := by first | (rw [hy263]; with_reducible exact H) | (have H2_ := (Option.bind_some _ _).symm.trans H; rw [hy263]; with_reducible exact H2_) | (have H2_ := (Option.bind_some _ _).symm.trans H; with_reducible exact H2_) | with_reducible exact H | (rw [hy263]; exact H) | exact H
          have Ny263 := Aside0.mk hy263
          clear hy263
          replace H := Option.bind_eq_some_iff.mp H
          obtain ⟨⟨t266, t267, t268, t269⟩, A580, H⟩ := H
          replace H : (if t269 = 0 then ((hasplaw03_num.f a0).bind fun bt271 => (some (t266 == bt271.1 && (t267 == bt271.2.1 && (t268.toList == bt271.2.2.toList))))) else (some false)) = some r := H
          have A58 := Aside0.mk A580
          clear A580
          by_cases c59 : t269 = 0
          · rw [if_pos c59] at H
            have c59b0 : (t269 == 0) = true := beq_iff_eq.mpr c59
            have c59b1 : (t269 != 0) = false := bne_eq_false_iff_eq.mpr c59
            clear c59
            replace H := Option.bind_eq_some_iff.mp H
            obtain ⟨⟨t271, t272, t273⟩, A600, H⟩ := H
            obtain ⟨rfl, rfl, rfl⟩ : t218 = t271 ∧ t219 = t272 ∧ t220 = t273 := by have q_ := Option.some.inj (A5.out.symm.trans A600); simpa only [Prod.mk.injEq] using q_
            replace H : (some (t266 == t218 && (t267 == t219 && (t268.toList == t220.toList)))) = some r := H
            have A60 := Aside0.mk A600
            clear A600
            obtain rfl := Option.some.inj H
            clear hr
            try go_wp2_with (first | ((with_reducible refine gate_callee (f := 17) rfl ?_); refine goesL_ (some 70) rfl rfl Try.func17 (by kernel_rfl) rfl #[.int .i64 a0] rfl (by (try simp only [List.map_toArray, List.map_cons, List.map_nil]); first | done | rfl | (simp only [List.length_drop, List.length_take]; rfl)) ?_; (with_reducible refine (hasplaw03_num.calls a0 t246 t247 t248 _ A53.out).mono ?_); rintro e w61 ⟨rfl, hb⟩; refine ⟨_, rfl, ?_⟩; have n0_ := Aside0.mk (blk_below (g := gb231) (o := .cells #[.int .i64 t227, .int .i64 t228, .string t229] 25 (0, 0)) (by (with_reducible repeat (first | refine blk_drewN ?_ _ | refine blk_drew ?_ | refine blk_alloc ?_ _)); exact BK231.out) hb); have n1_ := Aside0.mk (blk_below (g := gb245) (o := .cells #[.int .i64 t241, .int .i64 t242, .string t243] 25 (0, 0)) (by (with_reducible repeat (first | refine blk_drewN ?_ _ | refine blk_drew ?_ | refine blk_alloc ?_ _)); exact BK245.out) hb); have n2_ := Aside0.mk (below_step (by repeat (first | (with_reducible first | exact HB.out | apply below_alloc | apply pw_below_drewN | apply below_drew1 | refine below_set ?_ GE231.out | refine below_set ?_ GE245.out) | exact HB.out)) hb); clear BK231; clear BK245; clear HB; have BK231 := n0_; have BK245 := n1_; have HB := n2_; clear n0_ n1_ n2_; (try clear hb); (try clear hb2); (try clear hk); (try clear hi)) | ((with_reducible refine gate_callee (f := 17) rfl ?_); refine goesL_ (some 72) rfl rfl Try.func17 (by kernel_rfl) rfl #[.int .i64 a1] rfl (by (try simp only [List.map_toArray, List.map_cons, List.map_nil]); first | done | rfl | (simp only [List.length_drop, List.length_take]; rfl)) ?_; (with_reducible refine (hasplaw03_num.calls a1 t221 t222 t223 _ A54.out).mono ?_); rintro e w62 ⟨rfl, hb⟩; refine ⟨_, rfl, ?_⟩; have n0_ := Aside0.mk (blk_below (g := gb231) (o := .cells #[.int .i64 t227, .int .i64 t228, .string t229] 25 (0, 0)) (by (with_reducible repeat (first | refine blk_drewN ?_ _ | refine blk_drew ?_ | refine blk_alloc ?_ _)); exact BK231.out) hb); have n1_ := Aside0.mk (blk_below (g := gb245) (o := .cells #[.int .i64 t241, .int .i64 t242, .string t243] 25 (0, 0)) (by (with_reducible repeat (first | refine blk_drewN ?_ _ | refine blk_drew ?_ | refine blk_alloc ?_ _)); exact BK245.out) hb); have n2_ := Aside0.mk (below_step (by repeat (first | (with_reducible first | exact HB.out | apply below_alloc | apply pw_below_drewN | apply below_drew1 | refine below_set ?_ GE231.out | refine below_set ?_ GE245.out) | exact HB.out)) hb); clear BK231; clear BK245; clear HB; have BK231 := n0_; have BK245 := n1_; have HB := n2_; clear n0_ n1_ n2_; (try clear hb); (try clear hb2); (try clear hk); (try clear hi)) | ((with_reducible refine gate_dst (N := 73) rfl ?_); refine Kd.R_lit k25 _ 25 ?hg (N := 73) ?hd (xs := ([(⟨t246, t247, t248⟩ : S25), (⟨t221, t222, t223⟩ : S25)] : List (S25))) (inner := [.int .i64 t246, .int .i64 t247, .string t248, .int .i64 t221, .int .i64 t222, .string t223]) (ok := fun _ => True) (okp := fun _ => True) ?hr ?hp (fun _ hk => hk) trivial (Below.refl _ _) (Nat.le_refl _) (by simp) ?_; (case hd => rfl); (case hg => rfl); (case hr => first | (go_simp; done) | (go_simp; rfl)); (case hp => exact (Reps.c3 (show Kd.M k25 _ _ _ (⟨t246, t247, t248⟩ : S25) [.int .i64 t246, .int .i64 t247, .string t248] from (k25_mkM _ _ _ (⟨t246, t247, t248⟩ : S25) )) (Reps.c3 (show Kd.M k25 _ _ _ (⟨t221, t222, t223⟩ : S25) [.int .i64 t221, .int .i64 t222, .string t223] from (k25_mkM _ _ _ (⟨t221, t222, t223⟩ : S25) )) (Reps.none _ _)))); intro v253 w63 ho64 hb hg_ hnew_; clear hg_ hnew_; (first | rw [← Ny252.out] at ho64 | (simp only [Int.reduceToNat] at ho64; rw [← Ny252.out] at ho64)); have n0_ := Aside0.mk (Kd.R_lower (Kd.R_newB (Kd.R_newB ho64 (g := gb231) (o := .cells #[.int .i64 t227, .int .i64 t228, .string t229] 25 (0, 0)) (by (with_reducible repeat (first | refine blk_drewN ?_ _ | refine blk_drew ?_ | refine blk_alloc ?_ _)); exact BK231.out)) (g := gb245) (o := .cells #[.int .i64 t241, .int .i64 t242, .string t243] 25 (0, 0)) (by (with_reducible repeat (first | refine blk_drewN ?_ _ | refine blk_drew ?_ | refine blk_alloc ?_ _)); exact BK245.out)) (below_size (by repeat (first | (with_reducible first | exact HB.out | apply below_alloc | apply pw_below_drewN | apply below_drew1 | refine below_set ?_ GE231.out | refine below_set ?_ GE245.out) | exact HB.out)))); have n1_ := Aside0.mk (blk_below (g := gb231) (o := .cells #[.int .i64 t227, .int .i64 t228, .string t229] 25 (0, 0)) (by (with_reducible repeat (first | refine blk_drewN ?_ _ | refine blk_drew ?_ | refine blk_alloc ?_ _)); exact BK231.out) hb); have n2_ := Aside0.mk (blk_below (g := gb245) (o := .cells #[.int .i64 t241, .int .i64 t242, .string t243] 25 (0, 0)) (by (with_reducible repeat (first | refine blk_drewN ?_ _ | refine blk_drew ?_ | refine blk_alloc ?_ _)); exact BK245.out) hb); have n3_ := Aside0.mk (below_step (by repeat (first | (with_reducible first | exact HB.out | apply below_alloc | apply pw_below_drewN | apply below_drew1 | refine below_set ?_ GE231.out | refine below_set ?_ GE245.out) | exact HB.out)) hb); clear BK231; clear BK245; clear HB; have HO254 := n0_; have BK231 := n1_; have BK245 := n2_; have HB := n3_; clear n0_ n1_ n2_ n3_; clear hb ho64; obtain ⟨Ao65, co65, eo65⟩ := Kd.R_slice HO254.out; subst eo65) | ((with_reducible refine gate_callee (f := 12) rfl ?_); refine goesL_ (some 74) rfl rfl Try.func12 (by kernel_rfl) rfl #[.int .i64 7, .slice Ao65 y252.length co65] rfl (by (try simp only [List.map_toArray, List.map_cons, List.map_nil]); first | done | rfl | (simp only [List.length_drop, List.length_take]; rfl)) ?_; (with_reducible refine (arith_Do.calls kj10 7 _ _ y252 t255 t256 t257 t258 _ ?side1 ?side2 A55.out).mono ?_); (case side1 => repeat (first | exact (Kd.R_reads' HO254.out).2.2 | (with_reducible refine Kd.C_alloc ?_ _) | (with_reducible refine Kd.C_drewN ?_ _) | (with_reducible refine Kd.C_drew ?_))); (case side2 => exact (Kd.R_reads' HO254.out).2.1); rintro e w66 ⟨rfl, hb⟩; refine ⟨_, rfl, ?_⟩; have n0_ := Aside0.mk (Kd.R_below (by (with_reducible repeat (first | apply Kd.R_alloc | apply Kd.R_drewN | apply Kd.R_drew)); exact HO254.out) hb); have n1_ := Aside0.mk (blk_below (g := gb231) (o := .cells #[.int .i64 t227, .int .i64 t228, .string t229] 25 (0, 0)) (by (with_reducible repeat (first | refine blk_drewN ?_ _ | refine blk_drew ?_ | refine blk_alloc ?_ _)); exact BK231.out) hb); have n2_ := Aside0.mk (blk_below (g := gb245) (o := .cells #[.int .i64 t241, .int .i64 t242, .string t243] 25 (0, 0)) (by (with_reducible repeat (first | refine blk_drewN ?_ _ | refine blk_drew ?_ | refine blk_alloc ?_ _)); exact BK245.out) hb); have n3_ := Aside0.mk (below_step (by repeat (first | (with_reducible first | exact HB.out | apply below_alloc | apply pw_below_drewN | apply below_drew1 | refine below_set ?_ GE231.out | refine below_set ?_ GE245.out) | exact HB.out)) hb); clear HO254; clear BK231; clear BK245; clear HB; have HO254 := n0_; have BK231 := n1_; have BK245 := n2_; have HB := n3_; clear n0_ n1_ n2_ n3_; (try clear hb); (try clear hb2); (try clear hk); (try clear hi)) | ((with_reducible refine gate_dst (N := 9) rfl ?_); refine box_event ?hg (N := 9) ?hd (cs := #[.int .i64 0, .int .i64 0, .string (⟨#[]⟩ : ByteArray)]) (t := 25) ?hr ?_; (case hd => rfl); (case hg => rfl); (case hr => first | (go_simp; done) | (go_simp; rfl)); intro gb259 hg w67 hbox hb; have n0_ := Aside0.mk (Kd.R_below (Kd.R_elderB (by (with_reducible repeat (first | apply Kd.R_alloc | apply Kd.R_drewN | apply Kd.R_drew)); exact HO254.out) gb259 (Nat.le_of_eq hg.symm)) hb); have n1_ := Aside0.mk (blk_below (g := gb231) (o := .cells #[.int .i64 t227, .int .i64 t228, .string t229] 25 (0, 0)) (by (with_reducible repeat (first | refine blk_drewN ?_ _ | refine blk_drew ?_ | refine blk_alloc ?_ _)); exact BK231.out) hb); have n2_ := Aside0.mk (blk_below (g := gb245) (o := .cells #[.int .i64 t241, .int .i64 t242, .string t243] 25 (0, 0)) (by (with_reducible repeat (first | refine blk_drewN ?_ _ | refine blk_drew ?_ | refine blk_alloc ?_ _)); exact BK245.out) hb); have n3_ := Aside0.mk (below_step (by repeat (first | (with_reducible first | exact HB.out | apply below_alloc | apply pw_below_drewN | apply below_drew1 | refine below_set ?_ GE231.out | refine below_set ?_ GE245.out) | exact HB.out)) hb); have n4_ := Aside0.mk (hbox); have n5_ := Aside0.mk ((by rw [hg]; exact (below_size (by repeat (first | (with_reducible first | exact HB.out | apply below_alloc | apply pw_below_drewN | apply below_drew1 | refine below_set ?_ GE231.out | refine below_set ?_ GE245.out) | exact HB.out))) : w.heap.size ≤ gb259)); have n6_ := Aside0.mk ((by rw [hg]; exact (below_size (by repeat (first | (with_reducible first | exact HB.out | apply below_alloc | apply pw_below_drewN | apply below_drew1 | refine below_set ?_ GE231.out | refine below_set ?_ GE245.out) | exact HB.out))) : w.heap.size ≤ gb259)); have n7_ := Aside0.mk ((by rw [hg]; exact Nat.ne_of_lt (blk_lt (g := gb231) (o := .cells #[.int .i64 t227, .int .i64 t228, .string t229] 25 (0, 0)) (by (with_reducible repeat (first | refine blk_drewN ?_ _ | refine blk_drew ?_ | refine blk_alloc ?_ _)); exact BK231.out)) : gb231 ≠ gb259)); have n8_ := Aside0.mk ((by rw [hg]; exact Nat.ne_of_gt (blk_lt (g := gb231) (o := .cells #[.int .i64 t227, .int .i64 t228, .string t229] 25 (0, 0)) (by (with_reducible repeat (first | refine blk_drewN ?_ _ | refine blk_drew ?_ | refine blk_alloc ?_ _)); exact BK231.out)) : gb259 ≠ gb231)); have n9_ := Aside0.mk ((by rw [hg]; exact Nat.ne_of_lt (blk_lt (g := gb245) (o := .cells #[.int .i64 t241, .int .i64 t242, .string t243] 25 (0, 0)) (by (with_reducible repeat (first | refine blk_drewN ?_ _ | refine blk_drew ?_ | refine blk_alloc ?_ _)); exact BK245.out)) : gb245 ≠ gb259)); have n10_ := Aside0.mk ((by rw [hg]; exact Nat.ne_of_gt (blk_lt (g := gb245) (o := .cells #[.int .i64 t241, .int .i64 t242, .string t243] 25 (0, 0)) (by (with_reducible repeat (first | refine blk_drewN ?_ _ | refine blk_drew ?_ | refine blk_alloc ?_ _)); exact BK245.out)) : gb259 ≠ gb245)); clear HO254; clear BK231; clear BK245; clear HB; have HO254 := n0_; have BK231 := n1_; have BK245 := n2_; have HB := n3_; have BK259 := n4_; have GW259 := n5_; have GE259 := n6_; have NB231_259 := n7_; have NB259_231 := n8_; have NB245_259 := n9_; have NB259_245 := n10_; clear n0_ n1_ n2_ n3_ n4_ n5_ n6_ n7_ n8_ n9_ n10_; clear hb hbox hg; have hnb68 := NB259_231.out; have hnc68 := NB231_259.out; have hnb69 := NB259_245.out; have hnc69 := NB245_259.out; have hcz70_0 : w67.cell? ⟨gb259, 0, none⟩ = some (.int .i64 0) := (blk_cell BK259.out 0).trans rfl; have hcz70_1 : w67.cell? ⟨gb259, 1, none⟩ = some (.int .i64 0) := (blk_cell BK259.out 1).trans rfl; have hcz70_2 : w67.cell? ⟨gb259, 2, none⟩ = some (.string (⟨#[]⟩ : ByteArray)) := (blk_cell BK259.out 2).trans rfl; have hfz70_0 := blk_frozen BK259.out 0; have hfz70_1 := blk_frozen BK259.out 1; have hfz70_2 := blk_frozen BK259.out 2))
            have n0_ : Aside0 (Kd.R k25 25 (((w67.setCell ⟨gb259, 0, none⟩ (.int .i64 t255)).setCell ⟨gb259, 1, none⟩ (.int .i64 t256)).setCell ⟨gb259, 2, none⟩ (.string t257)) w.heap.size (fun k_ => k_ ≠ gb231 ∧ k_ ≠ gb245 ∧ k_ ≠ gb259) (.slice Ao65 y252.length co65) y252) := ⟨by (with_reducible repeat (first | apply Kd.R_alloc | apply Kd.R_drewN | apply Kd.R_drew)); exact Kd.R_mono (Kd.R_far (p := ⟨gb259, 2, none⟩) (Kd.R_far (p := ⟨gb259, 1, none⟩) (Kd.R_far (p := ⟨gb259, 0, none⟩) (Kd.R_mono HO254.out (fun k_ hk => (⟨hk, hk.2⟩ : _ ∧ k_ ≠ gb259))) (fun _ hk => hk.2) (.int .i64 t255)) (fun _ hk => hk.2) (.int .i64 t256)) (fun _ hk => hk.2) (.string t257)) (fun _ hk => ⟨hk.1.1.1.2, ⟨hk.1.1.2, hk.1.2⟩⟩)⟩
            have n1_ : Aside0 ((((w67.setCell ⟨gb259, 0, none⟩ (.int .i64 t255)).setCell ⟨gb259, 1, none⟩ (.int .i64 t256)).setCell ⟨gb259, 2, none⟩ (.string t257)).heap[gb231]? = some (.cells #[.int .i64 t227, .int .i64 t228, .string t229] 25 (0, 0))) := ⟨by (with_reducible repeat (first | refine blk_drewN ?_ _ | refine blk_drew ?_ | refine blk_alloc ?_ _)); refine blk_far ?_ NB231_259.out _; (with_reducible repeat (first | refine blk_drewN ?_ _ | refine blk_drew ?_ | refine blk_alloc ?_ _)); refine blk_far ?_ NB231_259.out _; (with_reducible repeat (first | refine blk_drewN ?_ _ | refine blk_drew ?_ | refine blk_alloc ?_ _)); refine blk_far ?_ NB231_259.out _; (with_reducible repeat (first | refine blk_drewN ?_ _ | refine blk_drew ?_ | refine blk_alloc ?_ _)); exact BK231.out⟩
            have n2_ : Aside0 ((((w67.setCell ⟨gb259, 0, none⟩ (.int .i64 t255)).setCell ⟨gb259, 1, none⟩ (.int .i64 t256)).setCell ⟨gb259, 2, none⟩ (.string t257)).heap[gb245]? = some (.cells #[.int .i64 t241, .int .i64 t242, .string t243] 25 (0, 0))) := ⟨by (with_reducible repeat (first | refine blk_drewN ?_ _ | refine blk_drew ?_ | refine blk_alloc ?_ _)); refine blk_far ?_ NB245_259.out _; (with_reducible repeat (first | refine blk_drewN ?_ _ | refine blk_drew ?_ | refine blk_alloc ?_ _)); refine blk_far ?_ NB245_259.out _; (with_reducible repeat (first | refine blk_drewN ?_ _ | refine blk_drew ?_ | refine blk_alloc ?_ _)); refine blk_far ?_ NB245_259.out _; (with_reducible repeat (first | refine blk_drewN ?_ _ | refine blk_drew ?_ | refine blk_alloc ?_ _)); exact BK245.out⟩
            have n3_ : Aside0 ((((w67.setCell ⟨gb259, 0, none⟩ (.int .i64 t255)).setCell ⟨gb259, 1, none⟩ (.int .i64 t256)).setCell ⟨gb259, 2, none⟩ (.string t257)).heap[gb259]? = some (.cells #[.int .i64 t255, .int .i64 t256, .string t257] 25 (0, 0))) := ⟨by (with_reducible repeat (first | refine blk_drewN ?_ _ | refine blk_drew ?_ | refine blk_alloc ?_ _)); refine blk_put (cs := #[.int .i64 t255, .int .i64 t256, .string (⟨#[]⟩ : ByteArray)]) ?_ 2 _ rfl; (with_reducible repeat (first | refine blk_drewN ?_ _ | refine blk_drew ?_ | refine blk_alloc ?_ _)); refine blk_put (cs := #[.int .i64 t255, .int .i64 0, .string (⟨#[]⟩ : ByteArray)]) ?_ 1 _ rfl; (with_reducible repeat (first | refine blk_drewN ?_ _ | refine blk_drew ?_ | refine blk_alloc ?_ _)); refine blk_put (cs := #[.int .i64 0, .int .i64 0, .string (⟨#[]⟩ : ByteArray)]) ?_ 0 _ rfl; (with_reducible repeat (first | refine blk_drewN ?_ _ | refine blk_drew ?_ | refine blk_alloc ?_ _)); exact BK259.out⟩
            have n4_ : Aside0 (Below w.heap.size w (((w67.setCell ⟨gb259, 0, none⟩ (.int .i64 t255)).setCell ⟨gb259, 1, none⟩ (.int .i64 t256)).setCell ⟨gb259, 2, none⟩ (.string t257))) := ⟨by repeat (first | (with_reducible first | exact HB.out | apply below_alloc | apply pw_below_drewN | apply below_drew1 | refine below_set ?_ GE231.out | refine below_set ?_ GE245.out | refine below_set ?_ GE259.out) | exact HB.out)⟩
            (try clear HO254)
            (try clear BK231)
            (try clear BK245)
            (try clear BK259)
            (try clear HB)
            generalize (((w67.setCell ⟨gb259, 0, none⟩ (.int .i64 t255)).setCell ⟨gb259, 1, none⟩ (.int .i64 t256)).setCell ⟨gb259, 2, none⟩ (.string t257)) = w71 at n0_ n1_ n2_ n3_ n4_ ⊢
            have HO254 := n0_
            have BK231 := n1_
            have BK245 := n2_
            have BK259 := n3_
            have HB := n4_
            clear n0_ n1_ n2_ n3_ n4_
            have n0_ := Aside0.mk (Kd.R_drew HO254.out)
            have n1_ := Aside0.mk (blk_drew BK231.out)
            have n2_ := Aside0.mk (blk_drew BK245.out)
            have n3_ := Aside0.mk (blk_drew BK259.out)
            have n4_ := Aside0.mk (below_drew1 HB.out)
            clear HO254
            clear BK231
            clear BK245
            clear BK259
            clear HB
            have HO254 := n0_
            have BK231 := n1_
            have BK245 := n2_
            have BK259 := n3_
            have HB := n4_
            clear n0_ n1_ n2_ n3_ n4_
            refine start_ (n := 11) (S := fun w' => w'.cell? ⟨gb259, 0, none⟩ = some (.int .i64 t255) ∧ w'.cell? ⟨gb259, 1, none⟩ = some (.int .i64 t256) ∧ w'.cell? ⟨gb259, 2, none⟩ = some (.string t257)) (ds := []) #[false, false, false, false, false, false, false, false, false, false, false] (by kernel_rfl) rfl rfl ⟨(blk_cell BK259.out 0).trans rfl, (blk_cell BK259.out 1).trans rfl, (blk_cell BK259.out 2).trans rfl⟩ (fun hHeld => ?_); refine with_tabW hasplaw03_ArithWhole.tab12 hasplaw03_ArithWhole.bits12 (fun HT_ HW_ => ?_)
            generalize w71.drew = w72 at HO254 BK231 BK245 BK259 HB hHeld ⊢
            refine pure_ (i := 1) (N := some 81) (v := ?_) (a' := ?_) #[false, true, false, false, false, false, false, false, false, false, false] rfl rfl (any_of HT_.out (by kernel_rfl)) (fun _ _ _ h => h) (Or.inl ⟨by rfl, ?_⟩) ?_ ?_
            rotate_left
            · intro w'
              go_simp
              with_reducible rfl
            rotate_left
            · simp only [Act.put, List.setIfInBounds_toArray, List.set_cons_zero, List.set_cons_succ, i64_w, i32_w]
              rfl
            refine take_ (i := 0) (N := some 80) (v := ?_) (a' := ?_) #[true, true, false, false, false, false, false, false, false, false, false] rfl rfl (take_ofW HT_.out HW_.out (by kernel_rfl)) (fun _ _ _ h => h) (Or.inl ⟨by rfl, ?_⟩) hHeld ?_ ?_
            rotate_left
            · rintro w' ⟨s0, s1, s2⟩
              go_simp
              with_reducible rfl
            rotate_left
            · simp only [Act.put, List.setIfInBounds_toArray, List.set_cons_zero, List.set_cons_succ, i64_w, i32_w]
              rfl
            refine join_ (σ := Value × Nat) 2 #[true, true, true, true, true, true, true, true, true, false, false] (fun s_ => [(82, .agg #[.int .i64 t221, .int .i64 t222, .string t223]), (83, s_.1), (84, .tuple #[.agg #[.int .i64 t266, .int .i64 t267, .string t268], .int .i64 t269]), (10, .pointer (some ⟨s_.2, 0, none⟩)), (79, .tuple #[.agg #[.int .i64 t266, .int .i64 t267, .string t268], .int .i64 t269]), (85, .agg #[.int .i64 t266, .int .i64 t267, .string t268]), (86, .int .i64 t269)]) (fun s_ w' => (w'.cell? ⟨gb259, 0, none⟩ = some (.int .i64 t255) ∧ w'.cell? ⟨gb259, 1, none⟩ = some (.int .i64 t256) ∧ w'.cell? ⟨gb259, 2, none⟩ = some (.string t257)) ∧ (Kd.R k25 25 w' w.heap.size (fun k_ => some k_ ≠ (s_.1 : Value).ownBlock ∧ k_ ≠ gb231 ∧ k_ ≠ gb245 ∧ k_ ≠ gb259 ∧ k_ ≠ s_.2) (.slice Ao65 y252.length co65) y252) ∧ (Kd.R k25 25 w' w.heap.size (fun k_ => some k_ ≠ (.slice Ao65 y252.length co65 : Value).ownBlock ∧ k_ ≠ gb231 ∧ k_ ≠ gb245 ∧ k_ ≠ gb259 ∧ k_ ≠ s_.2) s_.1 y263) ∧ (w'.heap[gb231]? = some (.cells #[.int .i64 t227, .int .i64 t228, .string t229] 25 (0, 0))) ∧ (w'.heap[gb245]? = some (.cells #[.int .i64 t241, .int .i64 t242, .string t243] 25 (0, 0))) ∧ (w'.heap[gb259]? = some (.cells #[.int .i64 t255, .int .i64 t256, .string t257] 25 (0, 0))) ∧ (w'.heap[s_.2]? = some (.cells #[.int .i64 0, .int .i64 0, .string (⟨#[]⟩ : ByteArray)] 25 (0, 0))) ∧ (w.heap.size ≤ s_.2) ∧ (w.heap.size ≤ s_.2) ∧ (gb231 ≠ s_.2) ∧ (s_.2 ≠ gb231) ∧ (gb245 ≠ s_.2) ∧ (s_.2 ≠ gb245) ∧ (gb259 ≠ s_.2) ∧ (s_.2 ≠ gb259) ∧ (Below w.heap.size w w')) ?_ ?_
            rotate_left
            · intro hCont
              refine two_ (i := 2) (j := 8) (Ni := some 82) (Nj := some 10) #[true, true, true, false, false, false, false, false, false, false, false] #[true, true, false, false, false, false, false, false, true, false, false] rfl rfl rfl rfl (two_of HT_.out (by kernel_rfl)) (by decide) (by decide) (fun K hK => ?_) (fun K hK => ?_)
              · skip
                refine goes_ Try.func17 (by kernel_rfl) rfl #[.int .i64 a1] (by rfl) rfl rfl (by (try simp only [List.map_toArray, List.map_cons, List.map_nil]); first | done | rfl | (simp only [List.length_drop, List.length_take]; rfl)) ?_
                with_reducible refine (hasplaw03_num.calls a1 t221 t222 t223 _ A57.out).mono ?_
                rintro e w73 ⟨rfl, hb⟩
                refine ⟨_, rfl, ?_⟩
                have n0_ := Aside0.mk (Kd.R_below (by (with_reducible repeat (first | apply Kd.R_alloc | apply Kd.R_drewN | apply Kd.R_drew)); exact HO254.out) hb)
                have n1_ := Aside0.mk (blk_below (g := gb231) (o := .cells #[.int .i64 t227, .int .i64 t228, .string t229] 25 (0, 0)) (by (with_reducible repeat (first | refine blk_drewN ?_ _ | refine blk_drew ?_ | refine blk_alloc ?_ _)); exact BK231.out) hb)
                have n2_ := Aside0.mk (blk_below (g := gb245) (o := .cells #[.int .i64 t241, .int .i64 t242, .string t243] 25 (0, 0)) (by (with_reducible repeat (first | refine blk_drewN ?_ _ | refine blk_drew ?_ | refine blk_alloc ?_ _)); exact BK245.out) hb)
                have n3_ := Aside0.mk (blk_below (g := gb259) (o := .cells #[.int .i64 t255, .int .i64 t256, .string t257] 25 (0, 0)) (by (with_reducible repeat (first | refine blk_drewN ?_ _ | refine blk_drew ?_ | refine blk_alloc ?_ _)); exact BK259.out) hb)
                have n4_ := Aside0.mk (below_step (by repeat (first | (with_reducible first | exact HB.out | apply below_alloc | apply pw_below_drewN | apply below_drew1 | refine below_set ?_ GE231.out | refine below_set ?_ GE245.out | refine below_set ?_ GE259.out) | exact HB.out)) hb)
                clear HO254
                clear BK231
                clear BK245
                clear BK259
                clear HB
                have HO254 := n0_
                have BK231 := n1_
                have BK245 := n2_
                have BK259 := n3_
                have HB := n4_
                clear n0_ n1_ n2_ n3_ n4_
                (try clear hb)
                (try clear hb2)
                (try clear hk)
                (try clear hi)
                refine hK.out _ _ ⟨(blk_cell BK259.out 0).trans rfl, (blk_cell BK259.out 1).trans rfl, (blk_cell BK259.out 2).trans rfl⟩ (fun hHeld => ?_)
                clear hK K
                refine norm_ (a' := ?_) ?_ ?_
                rotate_left
                · show Act.put _ (some 82) _ = _
                  simp only [Act.put, List.setIfInBounds_toArray, List.set_cons_zero, List.set_cons_succ, i64_w, i32_w]
                  rfl
                refine two_ (i := 3) (j := 8) (Ni := some 83) (Nj := some 10) #[true, true, true, true, false, false, false, false, false, false, false] #[true, true, true, false, false, false, false, false, true, false, false] rfl rfl rfl rfl (two_of HT_.out (by kernel_rfl)) (by decide) (by decide) (fun K hK => ?_) (fun K hK => ?_)
                · skip
                  refine Kd.R_lit_step k25 _ 25 ?hg (N := 83) ?hd (xs := ([(⟨t255, t256, t257⟩ : S25), (⟨t221, t222, t223⟩ : S25)] : List (S25))) (inner := [.int .i64 t255, .int .i64 t256, .string t257, .int .i64 t221, .int .i64 t222, .string t223]) (ok := fun _ => True) (okp := fun _ => True) ?hr ?hp (fun _ hk => hk) trivial (Below.refl _ _) (Nat.le_refl _) (by simp) ?_; (case hd => rfl); (case hg => rfl); (case hr => first | (go_simp; done) | (go_simp; rfl)); (case hp => exact (Reps.c3 (show Kd.M k25 _ _ _ (⟨t255, t256, t257⟩ : S25) [.int .i64 t255, .int .i64 t256, .string t257] from (k25_mkM _ _ _ (⟨t255, t256, t257⟩ : S25) )) (Reps.c3 (show Kd.M k25 _ _ _ (⟨t221, t222, t223⟩ : S25) [.int .i64 t221, .int .i64 t222, .string t223] from (k25_mkM _ _ _ (⟨t221, t222, t223⟩ : S25) )) (Reps.none _ _))))
                  intro v264 w74 ho75 hb hg_ hnew_
                  clear hg_ hnew_
                  (first | rw [← Ny263.out] at ho75 | (simp only [Int.reduceToNat] at ho75; rw [← Ny263.out] at ho75))
                  have n0_ := Aside0.mk (Kd.R_elder' (by (with_reducible repeat (first | apply Kd.R_alloc | apply Kd.R_drewN | apply Kd.R_drew)); exact HO254.out) (Kd.R_base ho75) hb)
                  have n1_ := Aside0.mk (Kd.R_lower (Kd.R_newB (Kd.R_newB (Kd.R_newB (Kd.R_new' ho75 (Kd.R_lt (by (with_reducible repeat (first | apply Kd.R_alloc | apply Kd.R_drewN | apply Kd.R_drew)); exact HO254.out))) (g := gb231) (o := .cells #[.int .i64 t227, .int .i64 t228, .string t229] 25 (0, 0)) (by (with_reducible repeat (first | refine blk_drewN ?_ _ | refine blk_drew ?_ | refine blk_alloc ?_ _)); exact BK231.out)) (g := gb245) (o := .cells #[.int .i64 t241, .int .i64 t242, .string t243] 25 (0, 0)) (by (with_reducible repeat (first | refine blk_drewN ?_ _ | refine blk_drew ?_ | refine blk_alloc ?_ _)); exact BK245.out)) (g := gb259) (o := .cells #[.int .i64 t255, .int .i64 t256, .string t257] 25 (0, 0)) (by (with_reducible repeat (first | refine blk_drewN ?_ _ | refine blk_drew ?_ | refine blk_alloc ?_ _)); exact BK259.out)) (below_size (by repeat (first | (with_reducible first | exact HB.out | apply below_alloc | apply pw_below_drewN | apply below_drew1 | refine below_set ?_ GE231.out | refine below_set ?_ GE245.out | refine below_set ?_ GE259.out) | exact HB.out))))
                  have n2_ := Aside0.mk (blk_below (g := gb231) (o := .cells #[.int .i64 t227, .int .i64 t228, .string t229] 25 (0, 0)) (by (with_reducible repeat (first | refine blk_drewN ?_ _ | refine blk_drew ?_ | refine blk_alloc ?_ _)); exact BK231.out) hb)
                  have n3_ := Aside0.mk (blk_below (g := gb245) (o := .cells #[.int .i64 t241, .int .i64 t242, .string t243] 25 (0, 0)) (by (with_reducible repeat (first | refine blk_drewN ?_ _ | refine blk_drew ?_ | refine blk_alloc ?_ _)); exact BK245.out) hb)
                  have n4_ := Aside0.mk (blk_below (g := gb259) (o := .cells #[.int .i64 t255, .int .i64 t256, .string t257] 25 (0, 0)) (by (with_reducible repeat (first | refine blk_drewN ?_ _ | refine blk_drew ?_ | refine blk_alloc ?_ _)); exact BK259.out) hb)
                  have n5_ := Aside0.mk (below_step (by repeat (first | (with_reducible first | exact HB.out | apply below_alloc | apply pw_below_drewN | apply below_drew1 | refine below_set ?_ GE231.out | refine below_set ?_ GE245.out | refine below_set ?_ GE259.out) | exact HB.out)) hb)
                  clear HO254
                  clear BK231
                  clear BK245
                  clear BK259
                  clear HB
                  have HO254 := n0_
                  have HO265 := n1_
                  have BK231 := n2_
                  have BK245 := n3_
                  have BK259 := n4_
                  have HB := n5_
                  clear n0_ n1_ n2_ n3_ n4_ n5_
                  clear hb ho75
                  obtain ⟨Ao76, co76, eo76⟩ := Kd.R_slice HO265.out
                  (first | subst eo76 | (injection eo76 with f1_ f2_ f3_; have f4_ := f1_.symm; have f5_ := f3_.symm; clear f1_ f2_ f3_; subst f4_; subst f5_))
                  refine hK.out _ _ ⟨(blk_cell BK259.out 0).trans rfl, (blk_cell BK259.out 1).trans rfl, (blk_cell BK259.out 2).trans rfl⟩ (fun hHeld => ?_)
                  clear hK K
                  refine norm_ (a' := ?_) ?_ ?_
                  rotate_left
                  · show Act.put _ (some 83) _ = _
                    simp only [Act.put, List.setIfInBounds_toArray, List.set_cons_zero, List.set_cons_succ, i64_w, i32_w]
                    rfl
                  refine two_ (i := 4) (j := 8) (Ni := some 84) (Nj := some 10) #[true, true, true, true, true, false, false, false, false, false, false] #[true, true, true, true, false, false, false, false, true, false, false] rfl rfl rfl rfl (two_of HT_.out (by kernel_rfl)) (by decide) (by decide) (fun K hK => ?_) (fun K hK => ?_)
                  · skip
                    refine goes_ Try.func12 (by kernel_rfl) rfl #[.int .i64 8, .slice Ao76 y263.length co76] (by rfl) rfl rfl (by (try simp only [List.map_toArray, List.map_cons, List.map_nil]); first | done | rfl | (simp only [List.length_drop, List.length_take]; rfl)) ?_
                    with_reducible refine (arith_Do.calls kj10 8 _ _ y263 t266 t267 t268 t269 _ ?side1 ?side2 A58.out).mono ?_
                    (case side1 => repeat (first | exact (Kd.R_reads' HO265.out).2.2 | (with_reducible refine Kd.C_alloc ?_ _) | (with_reducible refine Kd.C_drewN ?_ _) | (with_reducible refine Kd.C_drew ?_)))
                    (case side2 => exact (Kd.R_reads' HO265.out).2.1)
                    rintro e w77 ⟨rfl, hb⟩
                    refine ⟨_, rfl, ?_⟩
                    have n0_ := Aside0.mk (Kd.R_below (by (with_reducible repeat (first | apply Kd.R_alloc | apply Kd.R_drewN | apply Kd.R_drew)); exact HO254.out) hb)
                    have n1_ := Aside0.mk (Kd.R_below (by (with_reducible repeat (first | apply Kd.R_alloc | apply Kd.R_drewN | apply Kd.R_drew)); exact HO265.out) hb)
                    have n2_ := Aside0.mk (blk_below (g := gb231) (o := .cells #[.int .i64 t227, .int .i64 t228, .string t229] 25 (0, 0)) (by (with_reducible repeat (first | refine blk_drewN ?_ _ | refine blk_drew ?_ | refine blk_alloc ?_ _)); exact BK231.out) hb)
                    have n3_ := Aside0.mk (blk_below (g := gb245) (o := .cells #[.int .i64 t241, .int .i64 t242, .string t243] 25 (0, 0)) (by (with_reducible repeat (first | refine blk_drewN ?_ _ | refine blk_drew ?_ | refine blk_alloc ?_ _)); exact BK245.out) hb)
                    have n4_ := Aside0.mk (blk_below (g := gb259) (o := .cells #[.int .i64 t255, .int .i64 t256, .string t257] 25 (0, 0)) (by (with_reducible repeat (first | refine blk_drewN ?_ _ | refine blk_drew ?_ | refine blk_alloc ?_ _)); exact BK259.out) hb)
                    have n5_ := Aside0.mk (below_step (by repeat (first | (with_reducible first | exact HB.out | apply below_alloc | apply pw_below_drewN | apply below_drew1 | refine below_set ?_ GE231.out | refine below_set ?_ GE245.out | refine below_set ?_ GE259.out) | exact HB.out)) hb)
                    clear HO254
                    clear HO265
                    clear BK231
                    clear BK245
                    clear BK259
                    clear HB
                    have HO254 := n0_
                    have HO265 := n1_
                    have BK231 := n2_
                    have BK245 := n3_
                    have BK259 := n4_
                    have HB := n5_
                    clear n0_ n1_ n2_ n3_ n4_ n5_
                    (try clear hb)
                    (try clear hb2)
                    (try clear hk)
                    (try clear hi)
                    refine hK.out _ _ ⟨(blk_cell BK259.out 0).trans rfl, (blk_cell BK259.out 1).trans rfl, (blk_cell BK259.out 2).trans rfl⟩ (fun hHeld => ?_)
                    clear hK K
                    refine norm_ (a' := ?_) ?_ ?_
                    rotate_left
                    · show Act.put _ (some 84) _ = _
                      simp only [Act.put, List.setIfInBounds_toArray, List.set_cons_zero, List.set_cons_succ, i64_w, i32_w]
                      rfl
                    refine pure_ (i := 5) (N := some 79) (v := ?_) (a' := ?_) #[true, true, true, true, true, true, false, false, false, false, false] rfl rfl (any_of HT_.out (by kernel_rfl)) (fun _ _ _ h => h) (Or.inl ⟨by rfl, ?_⟩) ?_ ?_
                    rotate_left
                    · intro w'
                      go_simp
                      with_reducible rfl
                    rotate_left
                    · simp only [Act.put, List.setIfInBounds_toArray, List.set_cons_zero, List.set_cons_succ, i64_w, i32_w]
                      rfl
                    refine pure_ (i := 6) (N := some 85) (v := ?_) (a' := ?_) #[true, true, true, true, true, true, true, false, false, false, false] rfl rfl (any_of HT_.out (by kernel_rfl)) (fun _ _ _ h => h) (Or.inl ⟨by rfl, ?_⟩) ?_ ?_
                    rotate_left
                    · intro w'
                      go_simp
                      with_reducible rfl
                    rotate_left
                    · simp only [Act.put, List.setIfInBounds_toArray, List.set_cons_zero, List.set_cons_succ, i64_w, i32_w]
                      rfl
                    refine pure_ (i := 7) (N := some 86) (v := ?_) (a' := ?_) #[true, true, true, true, true, true, true, true, false, false, false] rfl rfl (any_of HT_.out (by kernel_rfl)) (fun _ _ _ h => h) (Or.inl ⟨by rfl, ?_⟩) ?_ ?_
                    rotate_left
                    · intro w'
                      go_simp
                      with_reducible rfl
                    rotate_left
                    · simp only [Act.put, List.setIfInBounds_toArray, List.set_cons_zero, List.set_cons_succ, i64_w, i32_w]
                      rfl
                    refine one_ (i := 8) (N := some 10) #[true, true, true, true, true, true, true, true, true, false, false] rfl rfl (one_of HT_.out (by kernel_rfl)) (by decide) (fun K hK => ?_)
                    refine box_step ?hg (N := 10) ?hd (cs := #[.int .i64 0, .int .i64 0, .string (⟨#[]⟩ : ByteArray)]) (t := 25) ?hr ?_; (case hd => rfl); (case hg => rfl); (case hr => first | (go_simp; done) | (go_simp; rfl))
                    intro gb270 hg w78 hbox hb
                    have n0_ := Aside0.mk (Kd.R_below (Kd.R_elderB (by (with_reducible repeat (first | apply Kd.R_alloc | apply Kd.R_drewN | apply Kd.R_drew)); exact HO254.out) gb270 (Nat.le_of_eq hg.symm)) hb)
                    have n1_ := Aside0.mk (Kd.R_below (Kd.R_elderB (by (with_reducible repeat (first | apply Kd.R_alloc | apply Kd.R_drewN | apply Kd.R_drew)); exact HO265.out) gb270 (Nat.le_of_eq hg.symm)) hb)
                    have n2_ := Aside0.mk (blk_below (g := gb231) (o := .cells #[.int .i64 t227, .int .i64 t228, .string t229] 25 (0, 0)) (by (with_reducible repeat (first | refine blk_drewN ?_ _ | refine blk_drew ?_ | refine blk_alloc ?_ _)); exact BK231.out) hb)
                    have n3_ := Aside0.mk (blk_below (g := gb245) (o := .cells #[.int .i64 t241, .int .i64 t242, .string t243] 25 (0, 0)) (by (with_reducible repeat (first | refine blk_drewN ?_ _ | refine blk_drew ?_ | refine blk_alloc ?_ _)); exact BK245.out) hb)
                    have n4_ := Aside0.mk (blk_below (g := gb259) (o := .cells #[.int .i64 t255, .int .i64 t256, .string t257] 25 (0, 0)) (by (with_reducible repeat (first | refine blk_drewN ?_ _ | refine blk_drew ?_ | refine blk_alloc ?_ _)); exact BK259.out) hb)
                    have n5_ := Aside0.mk (below_step (by repeat (first | (with_reducible first | exact HB.out | apply below_alloc | apply pw_below_drewN | apply below_drew1 | refine below_set ?_ GE231.out | refine below_set ?_ GE245.out | refine below_set ?_ GE259.out) | exact HB.out)) hb)
                    have n6_ := Aside0.mk (hbox)
                    have n7_ := Aside0.mk ((by rw [hg]; exact (below_size (by repeat (first | (with_reducible first | exact HB.out | apply below_alloc | apply pw_below_drewN | apply below_drew1 | refine below_set ?_ GE231.out | refine below_set ?_ GE245.out | refine below_set ?_ GE259.out) | exact HB.out))) : w.heap.size ≤ gb270))
                    have n8_ := Aside0.mk ((by rw [hg]; exact (below_size (by repeat (first | (with_reducible first | exact HB.out | apply below_alloc | apply pw_below_drewN | apply below_drew1 | refine below_set ?_ GE231.out | refine below_set ?_ GE245.out | refine below_set ?_ GE259.out) | exact HB.out))) : w.heap.size ≤ gb270))
                    have n9_ := Aside0.mk ((by rw [hg]; exact Nat.ne_of_lt (blk_lt (g := gb231) (o := .cells #[.int .i64 t227, .int .i64 t228, .string t229] 25 (0, 0)) (by (with_reducible repeat (first | refine blk_drewN ?_ _ | refine blk_drew ?_ | refine blk_alloc ?_ _)); exact BK231.out)) : gb231 ≠ gb270))
                    have n10_ := Aside0.mk ((by rw [hg]; exact Nat.ne_of_gt (blk_lt (g := gb231) (o := .cells #[.int .i64 t227, .int .i64 t228, .string t229] 25 (0, 0)) (by (with_reducible repeat (first | refine blk_drewN ?_ _ | refine blk_drew ?_ | refine blk_alloc ?_ _)); exact BK231.out)) : gb270 ≠ gb231))
                    have n11_ := Aside0.mk ((by rw [hg]; exact Nat.ne_of_lt (blk_lt (g := gb245) (o := .cells #[.int .i64 t241, .int .i64 t242, .string t243] 25 (0, 0)) (by (with_reducible repeat (first | refine blk_drewN ?_ _ | refine blk_drew ?_ | refine blk_alloc ?_ _)); exact BK245.out)) : gb245 ≠ gb270))
                    have n12_ := Aside0.mk ((by rw [hg]; exact Nat.ne_of_gt (blk_lt (g := gb245) (o := .cells #[.int .i64 t241, .int .i64 t242, .string t243] 25 (0, 0)) (by (with_reducible repeat (first | refine blk_drewN ?_ _ | refine blk_drew ?_ | refine blk_alloc ?_ _)); exact BK245.out)) : gb270 ≠ gb245))
                    have n13_ := Aside0.mk ((by rw [hg]; exact Nat.ne_of_lt (blk_lt (g := gb259) (o := .cells #[.int .i64 t255, .int .i64 t256, .string t257] 25 (0, 0)) (by (with_reducible repeat (first | refine blk_drewN ?_ _ | refine blk_drew ?_ | refine blk_alloc ?_ _)); exact BK259.out)) : gb259 ≠ gb270))
                    have n14_ := Aside0.mk ((by rw [hg]; exact Nat.ne_of_gt (blk_lt (g := gb259) (o := .cells #[.int .i64 t255, .int .i64 t256, .string t257] 25 (0, 0)) (by (with_reducible repeat (first | refine blk_drewN ?_ _ | refine blk_drew ?_ | refine blk_alloc ?_ _)); exact BK259.out)) : gb270 ≠ gb259))
                    clear HO254
                    clear HO265
                    clear BK231
                    clear BK245
                    clear BK259
                    clear HB
                    have HO254 := n0_
                    have HO265 := n1_
                    have BK231 := n2_
                    have BK245 := n3_
                    have BK259 := n4_
                    have HB := n5_
                    have BK270 := n6_
                    have GW270 := n7_
                    have GE270 := n8_
                    have NB231_270 := n9_
                    have NB270_231 := n10_
                    have NB245_270 := n11_
                    have NB270_245 := n12_
                    have NB259_270 := n13_
                    have NB270_259 := n14_
                    clear n0_ n1_ n2_ n3_ n4_ n5_ n6_ n7_ n8_ n9_ n10_ n11_ n12_ n13_ n14_
                    clear hb hbox hg
                    refine hK.out _ _ ⟨(blk_cell BK259.out 0).trans rfl, (blk_cell BK259.out 1).trans rfl, (blk_cell BK259.out 2).trans rfl⟩ (fun hHeld => ?_)
                    clear hK K
                    refine norm_ (a' := ?_) ?_ ?_
                    rotate_left
                    · show Act.put _ (some 10) _ = _
                      simp only [Act.put, List.setIfInBounds_toArray, List.set_cons_zero, List.set_cons_succ, i64_w, i32_w]
                      rfl
                    exact norm_ (by simp only [putAll, Act.put, List.setIfInBounds_toArray, List.set_cons_zero, List.set_cons_succ]) (hCont (.slice Ao76 y263.length co76, gb270) _ ⟨hHeld, (by (with_reducible repeat (first | apply Kd.R_alloc | apply Kd.R_drewN | apply Kd.R_drew)); exact Kd.R_mono HO254.out (fun _ hk => ⟨hk.1.2, ⟨hk.1.1.1, ⟨hk.1.1.2.1, ⟨hk.1.1.2.2, hk.2⟩⟩⟩⟩)), (by (with_reducible repeat (first | apply Kd.R_alloc | apply Kd.R_drewN | apply Kd.R_drew)); exact Kd.R_mono HO265.out (fun _ hk => ⟨hk.1.1.1.1.2, ⟨hk.1.1.1.2, ⟨hk.1.1.2, ⟨hk.1.2, hk.2⟩⟩⟩⟩)), (by (with_reducible repeat (first | refine blk_drewN ?_ _ | refine blk_drew ?_ | refine blk_alloc ?_ _)); exact BK231.out), (by (with_reducible repeat (first | refine blk_drewN ?_ _ | refine blk_drew ?_ | refine blk_alloc ?_ _)); exact BK245.out), (by (with_reducible repeat (first | refine blk_drewN ?_ _ | refine blk_drew ?_ | refine blk_alloc ?_ _)); exact BK259.out), (by (with_reducible repeat (first | refine blk_drewN ?_ _ | refine blk_drew ?_ | refine blk_alloc ?_ _)); exact BK270.out), GW270.out, GE270.out, NB231_270.out, NB270_231.out, NB245_270.out, NB270_245.out, NB259_270.out, NB270_259.out, (by repeat (first | (with_reducible first | exact HB.out | apply below_alloc | apply pw_below_drewN | apply below_drew1 | refine below_set ?_ GE231.out | refine below_set ?_ GE245.out | refine below_set ?_ GE259.out | refine below_set ?_ GE270.out) | exact HB.out))⟩)
                  · skip
                    refine box_step ?hg (N := 10) ?hd (cs := #[.int .i64 0, .int .i64 0, .string (⟨#[]⟩ : ByteArray)]) (t := 25) ?hr ?_; (case hd => rfl); (case hg => rfl); (case hr => first | (go_simp; done) | (go_simp; rfl))
                    intro gb270 hg w76 hbox hb
                    have n0_ := Aside0.mk (Kd.R_below (Kd.R_elderB (by (with_reducible repeat (first | apply Kd.R_alloc | apply Kd.R_drewN | apply Kd.R_drew)); exact HO254.out) gb270 (Nat.le_of_eq hg.symm)) hb)
                    have n1_ := Aside0.mk (Kd.R_below (Kd.R_elderB (by (with_reducible repeat (first | apply Kd.R_alloc | apply Kd.R_drewN | apply Kd.R_drew)); exact HO265.out) gb270 (Nat.le_of_eq hg.symm)) hb)
                    have n2_ := Aside0.mk (blk_below (g := gb231) (o := .cells #[.int .i64 t227, .int .i64 t228, .string t229] 25 (0, 0)) (by (with_reducible repeat (first | refine blk_drewN ?_ _ | refine blk_drew ?_ | refine blk_alloc ?_ _)); exact BK231.out) hb)
                    have n3_ := Aside0.mk (blk_below (g := gb245) (o := .cells #[.int .i64 t241, .int .i64 t242, .string t243] 25 (0, 0)) (by (with_reducible repeat (first | refine blk_drewN ?_ _ | refine blk_drew ?_ | refine blk_alloc ?_ _)); exact BK245.out) hb)
                    have n4_ := Aside0.mk (blk_below (g := gb259) (o := .cells #[.int .i64 t255, .int .i64 t256, .string t257] 25 (0, 0)) (by (with_reducible repeat (first | refine blk_drewN ?_ _ | refine blk_drew ?_ | refine blk_alloc ?_ _)); exact BK259.out) hb)
                    have n5_ := Aside0.mk (below_step (by repeat (first | (with_reducible first | exact HB.out | apply below_alloc | apply pw_below_drewN | apply below_drew1 | refine below_set ?_ GE231.out | refine below_set ?_ GE245.out | refine below_set ?_ GE259.out) | exact HB.out)) hb)
                    have n6_ := Aside0.mk (hbox)
                    have n7_ := Aside0.mk ((by rw [hg]; exact (below_size (by repeat (first | (with_reducible first | exact HB.out | apply below_alloc | apply pw_below_drewN | apply below_drew1 | refine below_set ?_ GE231.out | refine below_set ?_ GE245.out | refine below_set ?_ GE259.out) | exact HB.out))) : w.heap.size ≤ gb270))
                    have n8_ := Aside0.mk ((by rw [hg]; exact (below_size (by repeat (first | (with_reducible first | exact HB.out | apply below_alloc | apply pw_below_drewN | apply below_drew1 | refine below_set ?_ GE231.out | refine below_set ?_ GE245.out | refine below_set ?_ GE259.out) | exact HB.out))) : w.heap.size ≤ gb270))
                    have n9_ := Aside0.mk ((by rw [hg]; exact Nat.ne_of_lt (blk_lt (g := gb231) (o := .cells #[.int .i64 t227, .int .i64 t228, .string t229] 25 (0, 0)) (by (with_reducible repeat (first | refine blk_drewN ?_ _ | refine blk_drew ?_ | refine blk_alloc ?_ _)); exact BK231.out)) : gb231 ≠ gb270))
                    have n10_ := Aside0.mk ((by rw [hg]; exact Nat.ne_of_gt (blk_lt (g := gb231) (o := .cells #[.int .i64 t227, .int .i64 t228, .string t229] 25 (0, 0)) (by (with_reducible repeat (first | refine blk_drewN ?_ _ | refine blk_drew ?_ | refine blk_alloc ?_ _)); exact BK231.out)) : gb270 ≠ gb231))
                    have n11_ := Aside0.mk ((by rw [hg]; exact Nat.ne_of_lt (blk_lt (g := gb245) (o := .cells #[.int .i64 t241, .int .i64 t242, .string t243] 25 (0, 0)) (by (with_reducible repeat (first | refine blk_drewN ?_ _ | refine blk_drew ?_ | refine blk_alloc ?_ _)); exact BK245.out)) : gb245 ≠ gb270))
                    have n12_ := Aside0.mk ((by rw [hg]; exact Nat.ne_of_gt (blk_lt (g := gb245) (o := .cells #[.int .i64 t241, .int .i64 t242, .string t243] 25 (0, 0)) (by (with_reducible repeat (first | refine blk_drewN ?_ _ | refine blk_drew ?_ | refine blk_alloc ?_ _)); exact BK245.out)) : gb270 ≠ gb245))
                    have n13_ := Aside0.mk ((by rw [hg]; exact Nat.ne_of_lt (blk_lt (g := gb259) (o := .cells #[.int .i64 t255, .int .i64 t256, .string t257] 25 (0, 0)) (by (with_reducible repeat (first | refine blk_drewN ?_ _ | refine blk_drew ?_ | refine blk_alloc ?_ _)); exact BK259.out)) : gb259 ≠ gb270))
                    have n14_ := Aside0.mk ((by rw [hg]; exact Nat.ne_of_gt (blk_lt (g := gb259) (o := .cells #[.int .i64 t255, .int .i64 t256, .string t257] 25 (0, 0)) (by (with_reducible repeat (first | refine blk_drewN ?_ _ | refine blk_drew ?_ | refine blk_alloc ?_ _)); exact BK259.out)) : gb270 ≠ gb259))
                    clear HO254
                    clear HO265
                    clear BK231
                    clear BK245
                    clear BK259
                    clear HB
                    have HO254 := n0_
                    have HO265 := n1_
                    have BK231 := n2_
                    have BK245 := n3_
                    have BK259 := n4_
                    have HB := n5_
                    have BK270 := n6_
                    have GW270 := n7_
                    have GE270 := n8_
                    have NB231_270 := n9_
                    have NB270_231 := n10_
                    have NB245_270 := n11_
                    have NB270_245 := n12_
                    have NB259_270 := n13_
                    have NB270_259 := n14_
                    clear n0_ n1_ n2_ n3_ n4_ n5_ n6_ n7_ n8_ n9_ n10_ n11_ n12_ n13_ n14_
                    clear hb hbox hg
                    obtain ⟨Ao77, co77, eo77⟩ := Kd.R_slice HO265.out
                    (first | subst eo77 | (injection eo77 with f1_ f2_ f3_; have f4_ := f1_.symm; have f5_ := f3_.symm; clear f1_ f2_ f3_; subst f4_; subst f5_))
                    refine hK.out _ _ ⟨(blk_cell BK259.out 0).trans rfl, (blk_cell BK259.out 1).trans rfl, (blk_cell BK259.out 2).trans rfl⟩ (fun hHeld => ?_)
                    clear hK K
                    refine norm_ (a' := ?_) ?_ ?_
                    rotate_left
                    · show Act.put _ (some 10) _ = _
                      simp only [Act.put, List.setIfInBounds_toArray, List.set_cons_zero, List.set_cons_succ, i64_w, i32_w]
                      rfl
                    refine one_ (i := 4) (N := some 84) #[true, true, true, true, true, false, false, false, true, false, false] rfl rfl (one_of HT_.out (by kernel_rfl)) (by decide) (fun K hK => ?_)
                    refine goes_ Try.func12 (by kernel_rfl) rfl #[.int .i64 8, .slice Ao77 y263.length co77] (by rfl) rfl rfl (by (try simp only [List.map_toArray, List.map_cons, List.map_nil]); first | done | rfl | (simp only [List.length_drop, List.length_take]; rfl)) ?_
                    with_reducible refine (arith_Do.calls kj10 8 _ _ y263 t266 t267 t268 t269 _ ?side1 ?side2 A58.out).mono ?_
                    (case side1 => repeat (first | exact (Kd.R_reads' HO265.out).2.2 | (with_reducible refine Kd.C_alloc ?_ _) | (with_reducible refine Kd.C_drewN ?_ _) | (with_reducible refine Kd.C_drew ?_)))
                    (case side2 => exact (Kd.R_reads' HO265.out).2.1)
                    rintro e w78 ⟨rfl, hb⟩
                    refine ⟨_, rfl, ?_⟩
                    have n0_ := Aside0.mk (Kd.R_below (by (with_reducible repeat (first | apply Kd.R_alloc | apply Kd.R_drewN | apply Kd.R_drew)); exact HO254.out) hb)
                    have n1_ := Aside0.mk (Kd.R_below (by (with_reducible repeat (first | apply Kd.R_alloc | apply Kd.R_drewN | apply Kd.R_drew)); exact HO265.out) hb)
                    have n2_ := Aside0.mk (blk_below (g := gb231) (o := .cells #[.int .i64 t227, .int .i64 t228, .string t229] 25 (0, 0)) (by (with_reducible repeat (first | refine blk_drewN ?_ _ | refine blk_drew ?_ | refine blk_alloc ?_ _)); exact BK231.out) hb)
                    have n3_ := Aside0.mk (blk_below (g := gb245) (o := .cells #[.int .i64 t241, .int .i64 t242, .string t243] 25 (0, 0)) (by (with_reducible repeat (first | refine blk_drewN ?_ _ | refine blk_drew ?_ | refine blk_alloc ?_ _)); exact BK245.out) hb)
                    have n4_ := Aside0.mk (blk_below (g := gb259) (o := .cells #[.int .i64 t255, .int .i64 t256, .string t257] 25 (0, 0)) (by (with_reducible repeat (first | refine blk_drewN ?_ _ | refine blk_drew ?_ | refine blk_alloc ?_ _)); exact BK259.out) hb)
                    have n5_ := Aside0.mk (blk_below (g := gb270) (o := .cells #[.int .i64 0, .int .i64 0, .string (⟨#[]⟩ : ByteArray)] 25 (0, 0)) (by (with_reducible repeat (first | refine blk_drewN ?_ _ | refine blk_drew ?_ | refine blk_alloc ?_ _)); exact BK270.out) hb)
                    have n6_ := Aside0.mk (below_step (by repeat (first | (with_reducible first | exact HB.out | apply below_alloc | apply pw_below_drewN | apply below_drew1 | refine below_set ?_ GE231.out | refine below_set ?_ GE245.out | refine below_set ?_ GE259.out | refine below_set ?_ GE270.out) | exact HB.out)) hb)
                    clear HO254
                    clear HO265
                    clear BK231
                    clear BK245
                    clear BK259
                    clear BK270
                    clear HB
                    have HO254 := n0_
                    have HO265 := n1_
                    have BK231 := n2_
                    have BK245 := n3_
                    have BK259 := n4_
                    have BK270 := n5_
                    have HB := n6_
                    clear n0_ n1_ n2_ n3_ n4_ n5_ n6_
                    (try clear hb)
                    (try clear hb2)
                    (try clear hk)
                    (try clear hi)
                    refine hK.out _ _ ⟨(blk_cell BK259.out 0).trans rfl, (blk_cell BK259.out 1).trans rfl, (blk_cell BK259.out 2).trans rfl⟩ (fun hHeld => ?_)
                    clear hK K
                    refine norm_ (a' := ?_) ?_ ?_
                    rotate_left
                    · show Act.put _ (some 84) _ = _
                      simp only [Act.put, List.setIfInBounds_toArray, List.set_cons_zero, List.set_cons_succ, i64_w, i32_w]
                      rfl
                    refine pure_ (i := 5) (N := some 79) (v := ?_) (a' := ?_) #[true, true, true, true, true, true, false, false, true, false, false] rfl rfl (any_of HT_.out (by kernel_rfl)) (fun _ _ _ h => h) (Or.inl ⟨by rfl, ?_⟩) ?_ ?_
                    rotate_left
                    · intro w'
                      go_simp
                      with_reducible rfl
                    rotate_left
                    · simp only [Act.put, List.setIfInBounds_toArray, List.set_cons_zero, List.set_cons_succ, i64_w, i32_w]
                      rfl
                    refine pure_ (i := 6) (N := some 85) (v := ?_) (a' := ?_) #[true, true, true, true, true, true, true, false, true, false, false] rfl rfl (any_of HT_.out (by kernel_rfl)) (fun _ _ _ h => h) (Or.inl ⟨by rfl, ?_⟩) ?_ ?_
                    rotate_left
                    · intro w'
                      go_simp
                      with_reducible rfl
                    rotate_left
                    · simp only [Act.put, List.setIfInBounds_toArray, List.set_cons_zero, List.set_cons_succ, i64_w, i32_w]
                      rfl
                    refine pure_ (i := 7) (N := some 86) (v := ?_) (a' := ?_) #[true, true, true, true, true, true, true, true, true, false, false] rfl rfl (any_of HT_.out (by kernel_rfl)) (fun _ _ _ h => h) (Or.inl ⟨by rfl, ?_⟩) ?_ ?_
                    rotate_left
                    · intro w'
                      go_simp
                      with_reducible rfl
                    rotate_left
                    · simp only [Act.put, List.setIfInBounds_toArray, List.set_cons_zero, List.set_cons_succ, i64_w, i32_w]
                      rfl
                    exact norm_ (by simp only [putAll, Act.put, List.setIfInBounds_toArray, List.set_cons_zero, List.set_cons_succ]) (hCont (.slice Ao77 y263.length co77, gb270) _ ⟨hHeld, (by (with_reducible repeat (first | apply Kd.R_alloc | apply Kd.R_drewN | apply Kd.R_drew)); exact Kd.R_mono HO254.out (fun _ hk => ⟨hk.1.2, ⟨hk.1.1.1, ⟨hk.1.1.2.1, ⟨hk.1.1.2.2, hk.2⟩⟩⟩⟩)), (by (with_reducible repeat (first | apply Kd.R_alloc | apply Kd.R_drewN | apply Kd.R_drew)); exact Kd.R_mono HO265.out (fun _ hk => ⟨hk.1.1.1.1.2, ⟨hk.1.1.1.2, ⟨hk.1.1.2, ⟨hk.1.2, hk.2⟩⟩⟩⟩)), (by (with_reducible repeat (first | refine blk_drewN ?_ _ | refine blk_drew ?_ | refine blk_alloc ?_ _)); exact BK231.out), (by (with_reducible repeat (first | refine blk_drewN ?_ _ | refine blk_drew ?_ | refine blk_alloc ?_ _)); exact BK245.out), (by (with_reducible repeat (first | refine blk_drewN ?_ _ | refine blk_drew ?_ | refine blk_alloc ?_ _)); exact BK259.out), (by (with_reducible repeat (first | refine blk_drewN ?_ _ | refine blk_drew ?_ | refine blk_alloc ?_ _)); exact BK270.out), GW270.out, GE270.out, NB231_270.out, NB270_231.out, NB245_270.out, NB270_245.out, NB259_270.out, NB270_259.out, (by repeat (first | (with_reducible first | exact HB.out | apply below_alloc | apply pw_below_drewN | apply below_drew1 | refine below_set ?_ GE231.out | refine below_set ?_ GE245.out | refine below_set ?_ GE259.out | refine below_set ?_ GE270.out) | exact HB.out))⟩)
                · skip
                  refine box_step ?hg (N := 10) ?hd (cs := #[.int .i64 0, .int .i64 0, .string (⟨#[]⟩ : ByteArray)]) (t := 25) ?hr ?_; (case hd => rfl); (case hg => rfl); (case hr => first | (go_simp; done) | (go_simp; rfl))
                  intro gb270 hg w74 hbox hb
                  have n0_ := Aside0.mk (Kd.R_below (Kd.R_elderB (by (with_reducible repeat (first | apply Kd.R_alloc | apply Kd.R_drewN | apply Kd.R_drew)); exact HO254.out) gb270 (Nat.le_of_eq hg.symm)) hb)
                  have n1_ := Aside0.mk (blk_below (g := gb231) (o := .cells #[.int .i64 t227, .int .i64 t228, .string t229] 25 (0, 0)) (by (with_reducible repeat (first | refine blk_drewN ?_ _ | refine blk_drew ?_ | refine blk_alloc ?_ _)); exact BK231.out) hb)
                  have n2_ := Aside0.mk (blk_below (g := gb245) (o := .cells #[.int .i64 t241, .int .i64 t242, .string t243] 25 (0, 0)) (by (with_reducible repeat (first | refine blk_drewN ?_ _ | refine blk_drew ?_ | refine blk_alloc ?_ _)); exact BK245.out) hb)
                  have n3_ := Aside0.mk (blk_below (g := gb259) (o := .cells #[.int .i64 t255, .int .i64 t256, .string t257] 25 (0, 0)) (by (with_reducible repeat (first | refine blk_drewN ?_ _ | refine blk_drew ?_ | refine blk_alloc ?_ _)); exact BK259.out) hb)
                  have n4_ := Aside0.mk (below_step (by repeat (first | (with_reducible first | exact HB.out | apply below_alloc | apply pw_below_drewN | apply below_drew1 | refine below_set ?_ GE231.out | refine below_set ?_ GE245.out | refine below_set ?_ GE259.out) | exact HB.out)) hb)
                  have n5_ := Aside0.mk (hbox)
                  have n6_ := Aside0.mk ((by rw [hg]; exact (below_size (by repeat (first | (with_reducible first | exact HB.out | apply below_alloc | apply pw_below_drewN | apply below_drew1 | refine below_set ?_ GE231.out | refine below_set ?_ GE245.out | refine below_set ?_ GE259.out) | exact HB.out))) : w.heap.size ≤ gb270))
                  have n7_ := Aside0.mk ((by rw [hg]; exact (below_size (by repeat (first | (with_reducible first | exact HB.out | apply below_alloc | apply pw_below_drewN | apply below_drew1 | refine below_set ?_ GE231.out | refine below_set ?_ GE245.out | refine below_set ?_ GE259.out) | exact HB.out))) : w.heap.size ≤ gb270))
                  have n8_ := Aside0.mk ((by rw [hg]; exact Nat.ne_of_lt (blk_lt (g := gb231) (o := .cells #[.int .i64 t227, .int .i64 t228, .string t229] 25 (0, 0)) (by (with_reducible repeat (first | refine blk_drewN ?_ _ | refine blk_drew ?_ | refine blk_alloc ?_ _)); exact BK231.out)) : gb231 ≠ gb270))
                  have n9_ := Aside0.mk ((by rw [hg]; exact Nat.ne_of_gt (blk_lt (g := gb231) (o := .cells #[.int .i64 t227, .int .i64 t228, .string t229] 25 (0, 0)) (by (with_reducible repeat (first | refine blk_drewN ?_ _ | refine blk_drew ?_ | refine blk_alloc ?_ _)); exact BK231.out)) : gb270 ≠ gb231))
                  have n10_ := Aside0.mk ((by rw [hg]; exact Nat.ne_of_lt (blk_lt (g := gb245) (o := .cells #[.int .i64 t241, .int .i64 t242, .string t243] 25 (0, 0)) (by (with_reducible repeat (first | refine blk_drewN ?_ _ | refine blk_drew ?_ | refine blk_alloc ?_ _)); exact BK245.out)) : gb245 ≠ gb270))
                  have n11_ := Aside0.mk ((by rw [hg]; exact Nat.ne_of_gt (blk_lt (g := gb245) (o := .cells #[.int .i64 t241, .int .i64 t242, .string t243] 25 (0, 0)) (by (with_reducible repeat (first | refine blk_drewN ?_ _ | refine blk_drew ?_ | refine blk_alloc ?_ _)); exact BK245.out)) : gb270 ≠ gb245))
                  have n12_ := Aside0.mk ((by rw [hg]; exact Nat.ne_of_lt (blk_lt (g := gb259) (o := .cells #[.int .i64 t255, .int .i64 t256, .string t257] 25 (0, 0)) (by (with_reducible repeat (first | refine blk_drewN ?_ _ | refine blk_drew ?_ | refine blk_alloc ?_ _)); exact BK259.out)) : gb259 ≠ gb270))
                  have n13_ := Aside0.mk ((by rw [hg]; exact Nat.ne_of_gt (blk_lt (g := gb259) (o := .cells #[.int .i64 t255, .int .i64 t256, .string t257] 25 (0, 0)) (by (with_reducible repeat (first | refine blk_drewN ?_ _ | refine blk_drew ?_ | refine blk_alloc ?_ _)); exact BK259.out)) : gb270 ≠ gb259))
                  clear HO254
                  clear BK231
                  clear BK245
                  clear BK259
                  clear HB
                  have HO254 := n0_
                  have BK231 := n1_
                  have BK245 := n2_
                  have BK259 := n3_
                  have HB := n4_
                  have BK270 := n5_
                  have GW270 := n6_
                  have GE270 := n7_
                  have NB231_270 := n8_
                  have NB270_231 := n9_
                  have NB245_270 := n10_
                  have NB270_245 := n11_
                  have NB259_270 := n12_
                  have NB270_259 := n13_
                  clear n0_ n1_ n2_ n3_ n4_ n5_ n6_ n7_ n8_ n9_ n10_ n11_ n12_ n13_
                  clear hb hbox hg
                  refine hK.out _ _ ⟨(blk_cell BK259.out 0).trans rfl, (blk_cell BK259.out 1).trans rfl, (blk_cell BK259.out 2).trans rfl⟩ (fun hHeld => ?_)
                  clear hK K
                  refine norm_ (a' := ?_) ?_ ?_
                  rotate_left
                  · show Act.put _ (some 10) _ = _
                    simp only [Act.put, List.setIfInBounds_toArray, List.set_cons_zero, List.set_cons_succ, i64_w, i32_w]
                    rfl
                  refine one_ (i := 3) (N := some 83) #[true, true, true, true, false, false, false, false, true, false, false] rfl rfl (one_of HT_.out (by kernel_rfl)) (by decide) (fun K hK => ?_)
                  refine Kd.R_lit_step k25 _ 25 ?hg (N := 83) ?hd (xs := ([(⟨t255, t256, t257⟩ : S25), (⟨t221, t222, t223⟩ : S25)] : List (S25))) (inner := [.int .i64 t255, .int .i64 t256, .string t257, .int .i64 t221, .int .i64 t222, .string t223]) (ok := fun _ => True) (okp := fun _ => True) ?hr ?hp (fun _ hk => hk) trivial (Below.refl _ _) (Nat.le_refl _) (by simp) ?_; (case hd => rfl); (case hg => rfl); (case hr => first | (go_simp; done) | (go_simp; rfl)); (case hp => exact (Reps.c3 (show Kd.M k25 _ _ _ (⟨t255, t256, t257⟩ : S25) [.int .i64 t255, .int .i64 t256, .string t257] from (k25_mkM _ _ _ (⟨t255, t256, t257⟩ : S25) )) (Reps.c3 (show Kd.M k25 _ _ _ (⟨t221, t222, t223⟩ : S25) [.int .i64 t221, .int .i64 t222, .string t223] from (k25_mkM _ _ _ (⟨t221, t222, t223⟩ : S25) )) (Reps.none _ _))))
                  intro v264 w75 ho76 hb hg_ hnew_
                  clear hg_ hnew_
                  (first | rw [← Ny263.out] at ho76 | (simp only [Int.reduceToNat] at ho76; rw [← Ny263.out] at ho76))
                  have n0_ := Aside0.mk (Kd.R_elder' (by (with_reducible repeat (first | apply Kd.R_alloc | apply Kd.R_drewN | apply Kd.R_drew)); exact HO254.out) (Kd.R_base ho76) hb)
                  have n1_ := Aside0.mk (Kd.R_lower (Kd.R_newB (Kd.R_newB (Kd.R_newB (Kd.R_newB (Kd.R_new' ho76 (Kd.R_lt (by (with_reducible repeat (first | apply Kd.R_alloc | apply Kd.R_drewN | apply Kd.R_drew)); exact HO254.out))) (g := gb231) (o := .cells #[.int .i64 t227, .int .i64 t228, .string t229] 25 (0, 0)) (by (with_reducible repeat (first | refine blk_drewN ?_ _ | refine blk_drew ?_ | refine blk_alloc ?_ _)); exact BK231.out)) (g := gb245) (o := .cells #[.int .i64 t241, .int .i64 t242, .string t243] 25 (0, 0)) (by (with_reducible repeat (first | refine blk_drewN ?_ _ | refine blk_drew ?_ | refine blk_alloc ?_ _)); exact BK245.out)) (g := gb259) (o := .cells #[.int .i64 t255, .int .i64 t256, .string t257] 25 (0, 0)) (by (with_reducible repeat (first | refine blk_drewN ?_ _ | refine blk_drew ?_ | refine blk_alloc ?_ _)); exact BK259.out)) (g := gb270) (o := .cells #[.int .i64 0, .int .i64 0, .string (⟨#[]⟩ : ByteArray)] 25 (0, 0)) (by (with_reducible repeat (first | refine blk_drewN ?_ _ | refine blk_drew ?_ | refine blk_alloc ?_ _)); exact BK270.out)) (below_size (by repeat (first | (with_reducible first | exact HB.out | apply below_alloc | apply pw_below_drewN | apply below_drew1 | refine below_set ?_ GE231.out | refine below_set ?_ GE245.out | refine below_set ?_ GE259.out | refine below_set ?_ GE270.out) | exact HB.out))))
                  have n2_ := Aside0.mk (blk_below (g := gb231) (o := .cells #[.int .i64 t227, .int .i64 t228, .string t229] 25 (0, 0)) (by (with_reducible repeat (first | refine blk_drewN ?_ _ | refine blk_drew ?_ | refine blk_alloc ?_ _)); exact BK231.out) hb)
                  have n3_ := Aside0.mk (blk_below (g := gb245) (o := .cells #[.int .i64 t241, .int .i64 t242, .string t243] 25 (0, 0)) (by (with_reducible repeat (first | refine blk_drewN ?_ _ | refine blk_drew ?_ | refine blk_alloc ?_ _)); exact BK245.out) hb)
                  have n4_ := Aside0.mk (blk_below (g := gb259) (o := .cells #[.int .i64 t255, .int .i64 t256, .string t257] 25 (0, 0)) (by (with_reducible repeat (first | refine blk_drewN ?_ _ | refine blk_drew ?_ | refine blk_alloc ?_ _)); exact BK259.out) hb)
                  have n5_ := Aside0.mk (blk_below (g := gb270) (o := .cells #[.int .i64 0, .int .i64 0, .string (⟨#[]⟩ : ByteArray)] 25 (0, 0)) (by (with_reducible repeat (first | refine blk_drewN ?_ _ | refine blk_drew ?_ | refine blk_alloc ?_ _)); exact BK270.out) hb)
                  have n6_ := Aside0.mk (below_step (by repeat (first | (with_reducible first | exact HB.out | apply below_alloc | apply pw_below_drewN | apply below_drew1 | refine below_set ?_ GE231.out | refine below_set ?_ GE245.out | refine below_set ?_ GE259.out | refine below_set ?_ GE270.out) | exact HB.out)) hb)
                  clear HO254
                  clear BK231
                  clear BK245
                  clear BK259
                  clear BK270
                  clear HB
                  have HO254 := n0_
                  have HO265 := n1_
                  have BK231 := n2_
                  have BK245 := n3_
                  have BK259 := n4_
                  have BK270 := n5_
                  have HB := n6_
                  clear n0_ n1_ n2_ n3_ n4_ n5_ n6_
                  clear hb ho76
                  obtain ⟨Ao77, co77, eo77⟩ := Kd.R_slice HO265.out
                  (first | subst eo77 | (injection eo77 with f1_ f2_ f3_; have f4_ := f1_.symm; have f5_ := f3_.symm; clear f1_ f2_ f3_; subst f4_; subst f5_))
                  refine hK.out _ _ ⟨(blk_cell BK259.out 0).trans rfl, (blk_cell BK259.out 1).trans rfl, (blk_cell BK259.out 2).trans rfl⟩ (fun hHeld => ?_)
                  clear hK K
                  refine norm_ (a' := ?_) ?_ ?_
                  rotate_left
                  · show Act.put _ (some 83) _ = _
                    simp only [Act.put, List.setIfInBounds_toArray, List.set_cons_zero, List.set_cons_succ, i64_w, i32_w]
                    rfl
                  refine one_ (i := 4) (N := some 84) #[true, true, true, true, true, false, false, false, true, false, false] rfl rfl (one_of HT_.out (by kernel_rfl)) (by decide) (fun K hK => ?_)
                  refine goes_ Try.func12 (by kernel_rfl) rfl #[.int .i64 8, .slice Ao77 y263.length co77] (by rfl) rfl rfl (by (try simp only [List.map_toArray, List.map_cons, List.map_nil]); first | done | rfl | (simp only [List.length_drop, List.length_take]; rfl)) ?_
                  with_reducible refine (arith_Do.calls kj10 8 _ _ y263 t266 t267 t268 t269 _ ?side1 ?side2 A58.out).mono ?_
                  (case side1 => repeat (first | exact (Kd.R_reads' HO265.out).2.2 | (with_reducible refine Kd.C_alloc ?_ _) | (with_reducible refine Kd.C_drewN ?_ _) | (with_reducible refine Kd.C_drew ?_)))
                  (case side2 => exact (Kd.R_reads' HO265.out).2.1)
                  rintro e w78 ⟨rfl, hb⟩
                  refine ⟨_, rfl, ?_⟩
                  have n0_ := Aside0.mk (Kd.R_below (by (with_reducible repeat (first | apply Kd.R_alloc | apply Kd.R_drewN | apply Kd.R_drew)); exact HO254.out) hb)
                  have n1_ := Aside0.mk (Kd.R_below (by (with_reducible repeat (first | apply Kd.R_alloc | apply Kd.R_drewN | apply Kd.R_drew)); exact HO265.out) hb)
                  have n2_ := Aside0.mk (blk_below (g := gb231) (o := .cells #[.int .i64 t227, .int .i64 t228, .string t229] 25 (0, 0)) (by (with_reducible repeat (first | refine blk_drewN ?_ _ | refine blk_drew ?_ | refine blk_alloc ?_ _)); exact BK231.out) hb)
                  have n3_ := Aside0.mk (blk_below (g := gb245) (o := .cells #[.int .i64 t241, .int .i64 t242, .string t243] 25 (0, 0)) (by (with_reducible repeat (first | refine blk_drewN ?_ _ | refine blk_drew ?_ | refine blk_alloc ?_ _)); exact BK245.out) hb)
                  have n4_ := Aside0.mk (blk_below (g := gb259) (o := .cells #[.int .i64 t255, .int .i64 t256, .string t257] 25 (0, 0)) (by (with_reducible repeat (first | refine blk_drewN ?_ _ | refine blk_drew ?_ | refine blk_alloc ?_ _)); exact BK259.out) hb)
                  have n5_ := Aside0.mk (blk_below (g := gb270) (o := .cells #[.int .i64 0, .int .i64 0, .string (⟨#[]⟩ : ByteArray)] 25 (0, 0)) (by (with_reducible repeat (first | refine blk_drewN ?_ _ | refine blk_drew ?_ | refine blk_alloc ?_ _)); exact BK270.out) hb)
                  have n6_ := Aside0.mk (below_step (by repeat (first | (with_reducible first | exact HB.out | apply below_alloc | apply pw_below_drewN | apply below_drew1 | refine below_set ?_ GE231.out | refine below_set ?_ GE245.out | refine below_set ?_ GE259.out | refine below_set ?_ GE270.out) | exact HB.out)) hb)
                  clear HO254
                  clear HO265
                  clear BK231
                  clear BK245
                  clear BK259
                  clear BK270
                  clear HB
                  have HO254 := n0_
                  have HO265 := n1_
                  have BK231 := n2_
                  have BK245 := n3_
                  have BK259 := n4_
                  have BK270 := n5_
                  have HB := n6_
                  clear n0_ n1_ n2_ n3_ n4_ n5_ n6_
                  (try clear hb)
                  (try clear hb2)
                  (try clear hk)
                  (try clear hi)
                  refine hK.out _ _ ⟨(blk_cell BK259.out 0).trans rfl, (blk_cell BK259.out 1).trans rfl, (blk_cell BK259.out 2).trans rfl⟩ (fun hHeld => ?_)
                  clear hK K
                  refine norm_ (a' := ?_) ?_ ?_
                  rotate_left
                  · show Act.put _ (some 84) _ = _
                    simp only [Act.put, List.setIfInBounds_toArray, List.set_cons_zero, List.set_cons_succ, i64_w, i32_w]
                    rfl
                  refine pure_ (i := 5) (N := some 79) (v := ?_) (a' := ?_) #[true, true, true, true, true, true, false, false, true, false, false] rfl rfl (any_of HT_.out (by kernel_rfl)) (fun _ _ _ h => h) (Or.inl ⟨by rfl, ?_⟩) ?_ ?_
                  rotate_left
                  · intro w'
                    go_simp
                    with_reducible rfl
                  rotate_left
                  · simp only [Act.put, List.setIfInBounds_toArray, List.set_cons_zero, List.set_cons_succ, i64_w, i32_w]
                    rfl
                  refine pure_ (i := 6) (N := some 85) (v := ?_) (a' := ?_) #[true, true, true, true, true, true, true, false, true, false, false] rfl rfl (any_of HT_.out (by kernel_rfl)) (fun _ _ _ h => h) (Or.inl ⟨by rfl, ?_⟩) ?_ ?_
                  rotate_left
                  · intro w'
                    go_simp
                    with_reducible rfl
                  rotate_left
                  · simp only [Act.put, List.setIfInBounds_toArray, List.set_cons_zero, List.set_cons_succ, i64_w, i32_w]
                    rfl
                  refine pure_ (i := 7) (N := some 86) (v := ?_) (a' := ?_) #[true, true, true, true, true, true, true, true, true, false, false] rfl rfl (any_of HT_.out (by kernel_rfl)) (fun _ _ _ h => h) (Or.inl ⟨by rfl, ?_⟩) ?_ ?_
                  rotate_left
                  · intro w'
                    go_simp
                    with_reducible rfl
                  rotate_left
                  · simp only [Act.put, List.setIfInBounds_toArray, List.set_cons_zero, List.set_cons_succ, i64_w, i32_w]
                    rfl
                  exact norm_ (by simp only [putAll, Act.put, List.setIfInBounds_toArray, List.set_cons_zero, List.set_cons_succ]) (hCont (.slice Ao77 y263.length co77, gb270) _ ⟨hHeld, (by (with_reducible repeat (first | apply Kd.R_alloc | apply Kd.R_drewN | apply Kd.R_drew)); exact Kd.R_mono HO254.out (fun _ hk => ⟨hk.2, ⟨hk.1.1.1, ⟨hk.1.1.2.1, ⟨hk.1.1.2.2, hk.1.2⟩⟩⟩⟩)), (by (with_reducible repeat (first | apply Kd.R_alloc | apply Kd.R_drewN | apply Kd.R_drew)); exact Kd.R_mono HO265.out (fun _ hk => ⟨hk.1.1.1.1.2, ⟨hk.1.1.1.2, ⟨hk.1.1.2, ⟨hk.1.2, hk.2⟩⟩⟩⟩)), (by (with_reducible repeat (first | refine blk_drewN ?_ _ | refine blk_drew ?_ | refine blk_alloc ?_ _)); exact BK231.out), (by (with_reducible repeat (first | refine blk_drewN ?_ _ | refine blk_drew ?_ | refine blk_alloc ?_ _)); exact BK245.out), (by (with_reducible repeat (first | refine blk_drewN ?_ _ | refine blk_drew ?_ | refine blk_alloc ?_ _)); exact BK259.out), (by (with_reducible repeat (first | refine blk_drewN ?_ _ | refine blk_drew ?_ | refine blk_alloc ?_ _)); exact BK270.out), GW270.out, GE270.out, NB231_270.out, NB270_231.out, NB245_270.out, NB270_245.out, NB259_270.out, NB270_259.out, (by repeat (first | (with_reducible first | exact HB.out | apply below_alloc | apply pw_below_drewN | apply below_drew1 | refine below_set ?_ GE231.out | refine below_set ?_ GE245.out | refine below_set ?_ GE259.out | refine below_set ?_ GE270.out) | exact HB.out))⟩)
              · skip
                refine box_step ?hg (N := 10) ?hd (cs := #[.int .i64 0, .int .i64 0, .string (⟨#[]⟩ : ByteArray)]) (t := 25) ?hr ?_; (case hd => rfl); (case hg => rfl); (case hr => first | (go_simp; done) | (go_simp; rfl))
                intro gb270 hg w73 hbox hb
                have n0_ := Aside0.mk (Kd.R_below (Kd.R_elderB (by (with_reducible repeat (first | apply Kd.R_alloc | apply Kd.R_drewN | apply Kd.R_drew)); exact HO254.out) gb270 (Nat.le_of_eq hg.symm)) hb)
                have n1_ := Aside0.mk (blk_below (g := gb231) (o := .cells #[.int .i64 t227, .int .i64 t228, .string t229] 25 (0, 0)) (by (with_reducible repeat (first | refine blk_drewN ?_ _ | refine blk_drew ?_ | refine blk_alloc ?_ _)); exact BK231.out) hb)
                have n2_ := Aside0.mk (blk_below (g := gb245) (o := .cells #[.int .i64 t241, .int .i64 t242, .string t243] 25 (0, 0)) (by (with_reducible repeat (first | refine blk_drewN ?_ _ | refine blk_drew ?_ | refine blk_alloc ?_ _)); exact BK245.out) hb)
                have n3_ := Aside0.mk (blk_below (g := gb259) (o := .cells #[.int .i64 t255, .int .i64 t256, .string t257] 25 (0, 0)) (by (with_reducible repeat (first | refine blk_drewN ?_ _ | refine blk_drew ?_ | refine blk_alloc ?_ _)); exact BK259.out) hb)
                have n4_ := Aside0.mk (below_step (by repeat (first | (with_reducible first | exact HB.out | apply below_alloc | apply pw_below_drewN | apply below_drew1 | refine below_set ?_ GE231.out | refine below_set ?_ GE245.out | refine below_set ?_ GE259.out) | exact HB.out)) hb)
                have n5_ := Aside0.mk (hbox)
                have n6_ := Aside0.mk ((by rw [hg]; exact (below_size (by repeat (first | (with_reducible first | exact HB.out | apply below_alloc | apply pw_below_drewN | apply below_drew1 | refine below_set ?_ GE231.out | refine below_set ?_ GE245.out | refine below_set ?_ GE259.out) | exact HB.out))) : w.heap.size ≤ gb270))
                have n7_ := Aside0.mk ((by rw [hg]; exact (below_size (by repeat (first | (with_reducible first | exact HB.out | apply below_alloc | apply pw_below_drewN | apply below_drew1 | refine below_set ?_ GE231.out | refine below_set ?_ GE245.out | refine below_set ?_ GE259.out) | exact HB.out))) : w.heap.size ≤ gb270))
                have n8_ := Aside0.mk ((by rw [hg]; exact Nat.ne_of_lt (blk_lt (g := gb231) (o := .cells #[.int .i64 t227, .int .i64 t228, .string t229] 25 (0, 0)) (by (with_reducible repeat (first | refine blk_drewN ?_ _ | refine blk_drew ?_ | refine blk_alloc ?_ _)); exact BK231.out)) : gb231 ≠ gb270))
                have n9_ := Aside0.mk ((by rw [hg]; exact Nat.ne_of_gt (blk_lt (g := gb231) (o := .cells #[.int .i64 t227, .int .i64 t228, .string t229] 25 (0, 0)) (by (with_reducible repeat (first | refine blk_drewN ?_ _ | refine blk_drew ?_ | refine blk_alloc ?_ _)); exact BK231.out)) : gb270 ≠ gb231))
                have n10_ := Aside0.mk ((by rw [hg]; exact Nat.ne_of_lt (blk_lt (g := gb245) (o := .cells #[.int .i64 t241, .int .i64 t242, .string t243] 25 (0, 0)) (by (with_reducible repeat (first | refine blk_drewN ?_ _ | refine blk_drew ?_ | refine blk_alloc ?_ _)); exact BK245.out)) : gb245 ≠ gb270))
                have n11_ := Aside0.mk ((by rw [hg]; exact Nat.ne_of_gt (blk_lt (g := gb245) (o := .cells #[.int .i64 t241, .int .i64 t242, .string t243] 25 (0, 0)) (by (with_reducible repeat (first | refine blk_drewN ?_ _ | refine blk_drew ?_ | refine blk_alloc ?_ _)); exact BK245.out)) : gb270 ≠ gb245))
                have n12_ := Aside0.mk ((by rw [hg]; exact Nat.ne_of_lt (blk_lt (g := gb259) (o := .cells #[.int .i64 t255, .int .i64 t256, .string t257] 25 (0, 0)) (by (with_reducible repeat (first | refine blk_drewN ?_ _ | refine blk_drew ?_ | refine blk_alloc ?_ _)); exact BK259.out)) : gb259 ≠ gb270))
                have n13_ := Aside0.mk ((by rw [hg]; exact Nat.ne_of_gt (blk_lt (g := gb259) (o := .cells #[.int .i64 t255, .int .i64 t256, .string t257] 25 (0, 0)) (by (with_reducible repeat (first | refine blk_drewN ?_ _ | refine blk_drew ?_ | refine blk_alloc ?_ _)); exact BK259.out)) : gb270 ≠ gb259))
                clear HO254
                clear BK231
                clear BK245
                clear BK259
                clear HB
                have HO254 := n0_
                have BK231 := n1_
                have BK245 := n2_
                have BK259 := n3_
                have HB := n4_
                have BK270 := n5_
                have GW270 := n6_
                have GE270 := n7_
                have NB231_270 := n8_
                have NB270_231 := n9_
                have NB245_270 := n10_
                have NB270_245 := n11_
                have NB259_270 := n12_
                have NB270_259 := n13_
                clear n0_ n1_ n2_ n3_ n4_ n5_ n6_ n7_ n8_ n9_ n10_ n11_ n12_ n13_
                clear hb hbox hg
                refine hK.out _ _ ⟨(blk_cell BK259.out 0).trans rfl, (blk_cell BK259.out 1).trans rfl, (blk_cell BK259.out 2).trans rfl⟩ (fun hHeld => ?_)
                clear hK K
                refine norm_ (a' := ?_) ?_ ?_
                rotate_left
                · show Act.put _ (some 10) _ = _
                  simp only [Act.put, List.setIfInBounds_toArray, List.set_cons_zero, List.set_cons_succ, i64_w, i32_w]
                  rfl
                refine one_ (i := 2) (N := some 82) #[true, true, true, false, false, false, false, false, true, false, false] rfl rfl (one_of HT_.out (by kernel_rfl)) (by decide) (fun K hK => ?_)
                refine goes_ Try.func17 (by kernel_rfl) rfl #[.int .i64 a1] (by rfl) rfl rfl (by (try simp only [List.map_toArray, List.map_cons, List.map_nil]); first | done | rfl | (simp only [List.length_drop, List.length_take]; rfl)) ?_
                with_reducible refine (hasplaw03_num.calls a1 t221 t222 t223 _ A57.out).mono ?_
                rintro e w74 ⟨rfl, hb⟩
                refine ⟨_, rfl, ?_⟩
                have n0_ := Aside0.mk (Kd.R_below (by (with_reducible repeat (first | apply Kd.R_alloc | apply Kd.R_drewN | apply Kd.R_drew)); exact HO254.out) hb)
                have n1_ := Aside0.mk (blk_below (g := gb231) (o := .cells #[.int .i64 t227, .int .i64 t228, .string t229] 25 (0, 0)) (by (with_reducible repeat (first | refine blk_drewN ?_ _ | refine blk_drew ?_ | refine blk_alloc ?_ _)); exact BK231.out) hb)
                have n2_ := Aside0.mk (blk_below (g := gb245) (o := .cells #[.int .i64 t241, .int .i64 t242, .string t243] 25 (0, 0)) (by (with_reducible repeat (first | refine blk_drewN ?_ _ | refine blk_drew ?_ | refine blk_alloc ?_ _)); exact BK245.out) hb)
                have n3_ := Aside0.mk (blk_below (g := gb259) (o := .cells #[.int .i64 t255, .int .i64 t256, .string t257] 25 (0, 0)) (by (with_reducible repeat (first | refine blk_drewN ?_ _ | refine blk_drew ?_ | refine blk_alloc ?_ _)); exact BK259.out) hb)
                have n4_ := Aside0.mk (blk_below (g := gb270) (o := .cells #[.int .i64 0, .int .i64 0, .string (⟨#[]⟩ : ByteArray)] 25 (0, 0)) (by (with_reducible repeat (first | refine blk_drewN ?_ _ | refine blk_drew ?_ | refine blk_alloc ?_ _)); exact BK270.out) hb)
                have n5_ := Aside0.mk (below_step (by repeat (first | (with_reducible first | exact HB.out | apply below_alloc | apply pw_below_drewN | apply below_drew1 | refine below_set ?_ GE231.out | refine below_set ?_ GE245.out | refine below_set ?_ GE259.out | refine below_set ?_ GE270.out) | exact HB.out)) hb)
                clear HO254
                clear BK231
                clear BK245
                clear BK259
                clear BK270
                clear HB
                have HO254 := n0_
                have BK231 := n1_
                have BK245 := n2_
                have BK259 := n3_
                have BK270 := n4_
                have HB := n5_
                clear n0_ n1_ n2_ n3_ n4_ n5_
                (try clear hb)
                (try clear hb2)
                (try clear hk)
                (try clear hi)
                refine hK.out _ _ ⟨(blk_cell BK259.out 0).trans rfl, (blk_cell BK259.out 1).trans rfl, (blk_cell BK259.out 2).trans rfl⟩ (fun hHeld => ?_)
                clear hK K
                refine norm_ (a' := ?_) ?_ ?_
                rotate_left
                · show Act.put _ (some 82) _ = _
                  simp only [Act.put, List.setIfInBounds_toArray, List.set_cons_zero, List.set_cons_succ, i64_w, i32_w]
                  rfl
                refine one_ (i := 3) (N := some 83) #[true, true, true, true, false, false, false, false, true, false, false] rfl rfl (one_of HT_.out (by kernel_rfl)) (by decide) (fun K hK => ?_)
                refine Kd.R_lit_step k25 _ 25 ?hg (N := 83) ?hd (xs := ([(⟨t255, t256, t257⟩ : S25), (⟨t221, t222, t223⟩ : S25)] : List (S25))) (inner := [.int .i64 t255, .int .i64 t256, .string t257, .int .i64 t221, .int .i64 t222, .string t223]) (ok := fun _ => True) (okp := fun _ => True) ?hr ?hp (fun _ hk => hk) trivial (Below.refl _ _) (Nat.le_refl _) (by simp) ?_; (case hd => rfl); (case hg => rfl); (case hr => first | (go_simp; done) | (go_simp; rfl)); (case hp => exact (Reps.c3 (show Kd.M k25 _ _ _ (⟨t255, t256, t257⟩ : S25) [.int .i64 t255, .int .i64 t256, .string t257] from (k25_mkM _ _ _ (⟨t255, t256, t257⟩ : S25) )) (Reps.c3 (show Kd.M k25 _ _ _ (⟨t221, t222, t223⟩ : S25) [.int .i64 t221, .int .i64 t222, .string t223] from (k25_mkM _ _ _ (⟨t221, t222, t223⟩ : S25) )) (Reps.none _ _))))
                intro v264 w75 ho76 hb hg_ hnew_
                clear hg_ hnew_
                (first | rw [← Ny263.out] at ho76 | (simp only [Int.reduceToNat] at ho76; rw [← Ny263.out] at ho76))
                have n0_ := Aside0.mk (Kd.R_elder' (by (with_reducible repeat (first | apply Kd.R_alloc | apply Kd.R_drewN | apply Kd.R_drew)); exact HO254.out) (Kd.R_base ho76) hb)
                have n1_ := Aside0.mk (Kd.R_lower (Kd.R_newB (Kd.R_newB (Kd.R_newB (Kd.R_newB (Kd.R_new' ho76 (Kd.R_lt (by (with_reducible repeat (first | apply Kd.R_alloc | apply Kd.R_drewN | apply Kd.R_drew)); exact HO254.out))) (g := gb231) (o := .cells #[.int .i64 t227, .int .i64 t228, .string t229] 25 (0, 0)) (by (with_reducible repeat (first | refine blk_drewN ?_ _ | refine blk_drew ?_ | refine blk_alloc ?_ _)); exact BK231.out)) (g := gb245) (o := .cells #[.int .i64 t241, .int .i64 t242, .string t243] 25 (0, 0)) (by (with_reducible repeat (first | refine blk_drewN ?_ _ | refine blk_drew ?_ | refine blk_alloc ?_ _)); exact BK245.out)) (g := gb259) (o := .cells #[.int .i64 t255, .int .i64 t256, .string t257] 25 (0, 0)) (by (with_reducible repeat (first | refine blk_drewN ?_ _ | refine blk_drew ?_ | refine blk_alloc ?_ _)); exact BK259.out)) (g := gb270) (o := .cells #[.int .i64 0, .int .i64 0, .string (⟨#[]⟩ : ByteArray)] 25 (0, 0)) (by (with_reducible repeat (first | refine blk_drewN ?_ _ | refine blk_drew ?_ | refine blk_alloc ?_ _)); exact BK270.out)) (below_size (by repeat (first | (with_reducible first | exact HB.out | apply below_alloc | apply pw_below_drewN | apply below_drew1 | refine below_set ?_ GE231.out | refine below_set ?_ GE245.out | refine below_set ?_ GE259.out | refine below_set ?_ GE270.out) | exact HB.out))))
                have n2_ := Aside0.mk (blk_below (g := gb231) (o := .cells #[.int .i64 t227, .int .i64 t228, .string t229] 25 (0, 0)) (by (with_reducible repeat (first | refine blk_drewN ?_ _ | refine blk_drew ?_ | refine blk_alloc ?_ _)); exact BK231.out) hb)
                have n3_ := Aside0.mk (blk_below (g := gb245) (o := .cells #[.int .i64 t241, .int .i64 t242, .string t243] 25 (0, 0)) (by (with_reducible repeat (first | refine blk_drewN ?_ _ | refine blk_drew ?_ | refine blk_alloc ?_ _)); exact BK245.out) hb)
                have n4_ := Aside0.mk (blk_below (g := gb259) (o := .cells #[.int .i64 t255, .int .i64 t256, .string t257] 25 (0, 0)) (by (with_reducible repeat (first | refine blk_drewN ?_ _ | refine blk_drew ?_ | refine blk_alloc ?_ _)); exact BK259.out) hb)
                have n5_ := Aside0.mk (blk_below (g := gb270) (o := .cells #[.int .i64 0, .int .i64 0, .string (⟨#[]⟩ : ByteArray)] 25 (0, 0)) (by (with_reducible repeat (first | refine blk_drewN ?_ _ | refine blk_drew ?_ | refine blk_alloc ?_ _)); exact BK270.out) hb)
                have n6_ := Aside0.mk (below_step (by repeat (first | (with_reducible first | exact HB.out | apply below_alloc | apply pw_below_drewN | apply below_drew1 | refine below_set ?_ GE231.out | refine below_set ?_ GE245.out | refine below_set ?_ GE259.out | refine below_set ?_ GE270.out) | exact HB.out)) hb)
                clear HO254
                clear BK231
                clear BK245
                clear BK259
                clear BK270
                clear HB
                have HO254 := n0_
                have HO265 := n1_
                have BK231 := n2_
                have BK245 := n3_
                have BK259 := n4_
                have BK270 := n5_
                have HB := n6_
                clear n0_ n1_ n2_ n3_ n4_ n5_ n6_
                clear hb ho76
                obtain ⟨Ao77, co77, eo77⟩ := Kd.R_slice HO265.out
                (first | subst eo77 | (injection eo77 with f1_ f2_ f3_; have f4_ := f1_.symm; have f5_ := f3_.symm; clear f1_ f2_ f3_; subst f4_; subst f5_))
                refine hK.out _ _ ⟨(blk_cell BK259.out 0).trans rfl, (blk_cell BK259.out 1).trans rfl, (blk_cell BK259.out 2).trans rfl⟩ (fun hHeld => ?_)
                clear hK K
                refine norm_ (a' := ?_) ?_ ?_
                rotate_left
                · show Act.put _ (some 83) _ = _
                  simp only [Act.put, List.setIfInBounds_toArray, List.set_cons_zero, List.set_cons_succ, i64_w, i32_w]
                  rfl
                refine one_ (i := 4) (N := some 84) #[true, true, true, true, true, false, false, false, true, false, false] rfl rfl (one_of HT_.out (by kernel_rfl)) (by decide) (fun K hK => ?_)
                refine goes_ Try.func12 (by kernel_rfl) rfl #[.int .i64 8, .slice Ao77 y263.length co77] (by rfl) rfl rfl (by (try simp only [List.map_toArray, List.map_cons, List.map_nil]); first | done | rfl | (simp only [List.length_drop, List.length_take]; rfl)) ?_
                with_reducible refine (arith_Do.calls kj10 8 _ _ y263 t266 t267 t268 t269 _ ?side1 ?side2 A58.out).mono ?_
                (case side1 => repeat (first | exact (Kd.R_reads' HO265.out).2.2 | (with_reducible refine Kd.C_alloc ?_ _) | (with_reducible refine Kd.C_drewN ?_ _) | (with_reducible refine Kd.C_drew ?_)))
                (case side2 => exact (Kd.R_reads' HO265.out).2.1)
                rintro e w78 ⟨rfl, hb⟩
                refine ⟨_, rfl, ?_⟩
                have n0_ := Aside0.mk (Kd.R_below (by (with_reducible repeat (first | apply Kd.R_alloc | apply Kd.R_drewN | apply Kd.R_drew)); exact HO254.out) hb)
                have n1_ := Aside0.mk (Kd.R_below (by (with_reducible repeat (first | apply Kd.R_alloc | apply Kd.R_drewN | apply Kd.R_drew)); exact HO265.out) hb)
                have n2_ := Aside0.mk (blk_below (g := gb231) (o := .cells #[.int .i64 t227, .int .i64 t228, .string t229] 25 (0, 0)) (by (with_reducible repeat (first | refine blk_drewN ?_ _ | refine blk_drew ?_ | refine blk_alloc ?_ _)); exact BK231.out) hb)
                have n3_ := Aside0.mk (blk_below (g := gb245) (o := .cells #[.int .i64 t241, .int .i64 t242, .string t243] 25 (0, 0)) (by (with_reducible repeat (first | refine blk_drewN ?_ _ | refine blk_drew ?_ | refine blk_alloc ?_ _)); exact BK245.out) hb)
                have n4_ := Aside0.mk (blk_below (g := gb259) (o := .cells #[.int .i64 t255, .int .i64 t256, .string t257] 25 (0, 0)) (by (with_reducible repeat (first | refine blk_drewN ?_ _ | refine blk_drew ?_ | refine blk_alloc ?_ _)); exact BK259.out) hb)
                have n5_ := Aside0.mk (blk_below (g := gb270) (o := .cells #[.int .i64 0, .int .i64 0, .string (⟨#[]⟩ : ByteArray)] 25 (0, 0)) (by (with_reducible repeat (first | refine blk_drewN ?_ _ | refine blk_drew ?_ | refine blk_alloc ?_ _)); exact BK270.out) hb)
                have n6_ := Aside0.mk (below_step (by repeat (first | (with_reducible first | exact HB.out | apply below_alloc | apply pw_below_drewN | apply below_drew1 | refine below_set ?_ GE231.out | refine below_set ?_ GE245.out | refine below_set ?_ GE259.out | refine below_set ?_ GE270.out) | exact HB.out)) hb)
                clear HO254
                clear HO265
                clear BK231
                clear BK245
                clear BK259
                clear BK270
                clear HB
                have HO254 := n0_
                have HO265 := n1_
                have BK231 := n2_
                have BK245 := n3_
                have BK259 := n4_
                have BK270 := n5_
                have HB := n6_
                clear n0_ n1_ n2_ n3_ n4_ n5_ n6_
                (try clear hb)
                (try clear hb2)
                (try clear hk)
                (try clear hi)
                refine hK.out _ _ ⟨(blk_cell BK259.out 0).trans rfl, (blk_cell BK259.out 1).trans rfl, (blk_cell BK259.out 2).trans rfl⟩ (fun hHeld => ?_)
                clear hK K
                refine norm_ (a' := ?_) ?_ ?_
                rotate_left
                · show Act.put _ (some 84) _ = _
                  simp only [Act.put, List.setIfInBounds_toArray, List.set_cons_zero, List.set_cons_succ, i64_w, i32_w]
                  rfl
                refine pure_ (i := 5) (N := some 79) (v := ?_) (a' := ?_) #[true, true, true, true, true, true, false, false, true, false, false] rfl rfl (any_of HT_.out (by kernel_rfl)) (fun _ _ _ h => h) (Or.inl ⟨by rfl, ?_⟩) ?_ ?_
                rotate_left
                · intro w'
                  go_simp
                  with_reducible rfl
                rotate_left
                · simp only [Act.put, List.setIfInBounds_toArray, List.set_cons_zero, List.set_cons_succ, i64_w, i32_w]
                  rfl
                refine pure_ (i := 6) (N := some 85) (v := ?_) (a' := ?_) #[true, true, true, true, true, true, true, false, true, false, false] rfl rfl (any_of HT_.out (by kernel_rfl)) (fun _ _ _ h => h) (Or.inl ⟨by rfl, ?_⟩) ?_ ?_
                rotate_left
                · intro w'
                  go_simp
                  with_reducible rfl
                rotate_left
                · simp only [Act.put, List.setIfInBounds_toArray, List.set_cons_zero, List.set_cons_succ, i64_w, i32_w]
                  rfl
                refine pure_ (i := 7) (N := some 86) (v := ?_) (a' := ?_) #[true, true, true, true, true, true, true, true, true, false, false] rfl rfl (any_of HT_.out (by kernel_rfl)) (fun _ _ _ h => h) (Or.inl ⟨by rfl, ?_⟩) ?_ ?_
                rotate_left
                · intro w'
                  go_simp
                  with_reducible rfl
                rotate_left
                · simp only [Act.put, List.setIfInBounds_toArray, List.set_cons_zero, List.set_cons_succ, i64_w, i32_w]
                  rfl
                exact norm_ (by simp only [putAll, Act.put, List.setIfInBounds_toArray, List.set_cons_zero, List.set_cons_succ]) (hCont (.slice Ao77 y263.length co77, gb270) _ ⟨hHeld, (by (with_reducible repeat (first | apply Kd.R_alloc | apply Kd.R_drewN | apply Kd.R_drew)); exact Kd.R_mono HO254.out (fun _ hk => ⟨hk.2, ⟨hk.1.1.1, ⟨hk.1.1.2.1, ⟨hk.1.1.2.2, hk.1.2⟩⟩⟩⟩)), (by (with_reducible repeat (first | apply Kd.R_alloc | apply Kd.R_drewN | apply Kd.R_drew)); exact Kd.R_mono HO265.out (fun _ hk => ⟨hk.1.1.1.1.2, ⟨hk.1.1.1.2, ⟨hk.1.1.2, ⟨hk.1.2, hk.2⟩⟩⟩⟩)), (by (with_reducible repeat (first | refine blk_drewN ?_ _ | refine blk_drew ?_ | refine blk_alloc ?_ _)); exact BK231.out), (by (with_reducible repeat (first | refine blk_drewN ?_ _ | refine blk_drew ?_ | refine blk_alloc ?_ _)); exact BK245.out), (by (with_reducible repeat (first | refine blk_drewN ?_ _ | refine blk_drew ?_ | refine blk_alloc ?_ _)); exact BK259.out), (by (with_reducible repeat (first | refine blk_drewN ?_ _ | refine blk_drew ?_ | refine blk_alloc ?_ _)); exact BK270.out), GW270.out, GE270.out, NB231_270.out, NB270_231.out, NB245_270.out, NB270_245.out, NB259_270.out, NB270_259.out, (by repeat (first | (with_reducible first | exact HB.out | apply below_alloc | apply pw_below_drewN | apply below_drew1 | refine below_set ?_ GE231.out | refine below_set ?_ GE245.out | refine below_set ?_ GE259.out | refine below_set ?_ GE270.out) | exact HB.out))⟩)
            rintro ⟨v264, gb270⟩ w79 ⟨hS_, h0_, h1_, h2_, h3_, h4_, h5_, h6_, h7_, h8_, h9_, h10_, h11_, h12_, h13_, h14_⟩
            have n0_ : Aside0 (Kd.R k25 25 w79 w.heap.size (fun k_ => some k_ ≠ (v264 : Value).ownBlock ∧ k_ ≠ gb231 ∧ k_ ≠ gb245 ∧ k_ ≠ gb259 ∧ k_ ≠ gb270) (.slice Ao65 y252.length co65) y252) := ⟨h0_⟩
            have n1_ : Aside0 (Kd.R k25 25 w79 w.heap.size (fun k_ => some k_ ≠ (.slice Ao65 y252.length co65 : Value).ownBlock ∧ k_ ≠ gb231 ∧ k_ ≠ gb245 ∧ k_ ≠ gb259 ∧ k_ ≠ gb270) v264 y263) := ⟨h1_⟩
            have n2_ : Aside0 (w79.heap[gb231]? = some (.cells #[.int .i64 t227, .int .i64 t228, .string t229] 25 (0, 0))) := ⟨h2_⟩
            have n3_ : Aside0 (w79.heap[gb245]? = some (.cells #[.int .i64 t241, .int .i64 t242, .string t243] 25 (0, 0))) := ⟨h3_⟩
            have n4_ : Aside0 (w79.heap[gb259]? = some (.cells #[.int .i64 t255, .int .i64 t256, .string t257] 25 (0, 0))) := ⟨h4_⟩
            have n5_ : Aside0 (w79.heap[gb270]? = some (.cells #[.int .i64 0, .int .i64 0, .string (⟨#[]⟩ : ByteArray)] 25 (0, 0))) := ⟨h5_⟩
            have n6_ : Aside0 (w.heap.size ≤ gb270) := ⟨h6_⟩
            have n7_ : Aside0 (w.heap.size ≤ gb270) := ⟨h7_⟩
            have n8_ : Aside0 (gb231 ≠ gb270) := ⟨h8_⟩
            have n9_ : Aside0 (gb270 ≠ gb231) := ⟨h9_⟩
            have n10_ : Aside0 (gb245 ≠ gb270) := ⟨h10_⟩
            have n11_ : Aside0 (gb270 ≠ gb245) := ⟨h11_⟩
            have n12_ : Aside0 (gb259 ≠ gb270) := ⟨h12_⟩
            have n13_ : Aside0 (gb270 ≠ gb259) := ⟨h13_⟩
            have n14_ : Aside0 (Below w.heap.size w w79) := ⟨h14_⟩
            clear HO254
            clear BK231
            clear BK245
            clear BK259
            clear HB
            clear h0_ h1_ h2_ h3_ h4_ h5_ h6_ h7_ h8_ h9_ h10_ h11_ h12_ h13_ h14_
            have HO254 := n0_
            have HO265 := n1_
            have BK231 := n2_
            have BK245 := n3_
            have BK259 := n4_
            have BK270 := n5_
            have GW270 := n6_
            have GE270 := n7_
            have NB231_270 := n8_
            have NB270_231 := n9_
            have NB245_270 := n10_
            have NB270_245 := n11_
            have NB259_270 := n12_
            have NB270_259 := n13_
            have HB := n14_
            clear n0_ n1_ n2_ n3_ n4_ n5_ n6_ n7_ n8_ n9_ n10_ n11_ n12_ n13_ n14_
            have hHeld : w79.cell? ⟨gb259, 0, none⟩ = some (.int .i64 t255) ∧ w79.cell? ⟨gb259, 1, none⟩ = some (.int .i64 t256) ∧ w79.cell? ⟨gb259, 2, none⟩ = some (.string t257) := hS_
            refine norm_ (a' := ?_) ?_ ?_
            rotate_left
            · simp only [putAll, Act.put, List.setIfInBounds_toArray, List.set_cons_zero, List.set_cons_succ]
              rfl
            refine one_ (i := 9) (N := none) #[true, true, true, true, true, true, true, true, true, true, false] rfl rfl (one_of HT_.out (by kernel_rfl)) (by decide) (fun K hK => ?_)
            have hs80 : w79.cell? ⟨gb270, 0, none⟩ = some (.int .i64 0) := (blk_cell BK270.out 0).trans rfl
            have hfs80 := blk_frozen BK270.out 0
            have hns80_0 := NB231_270.out
            have hns80_1 := NB245_270.out
            have hns80_2 := NB259_270.out
            have hms80_0 := NB270_231.out
            have hms80_1 := NB270_245.out
            have hms80_2 := NB270_259.out
            have hs81 : w79.cell? ⟨gb270, 1, none⟩ = some (.int .i64 0) := (blk_cell BK270.out 1).trans rfl
            have hfs81 := blk_frozen BK270.out 1
            have hns81_0 := NB231_270.out
            have hns81_1 := NB245_270.out
            have hns81_2 := NB259_270.out
            have hms81_0 := NB270_231.out
            have hms81_1 := NB270_245.out
            have hms81_2 := NB270_259.out
            have hs82 : w79.cell? ⟨gb270, 2, none⟩ = some (.string (⟨#[]⟩ : ByteArray)) := (blk_cell BK270.out 2).trans rfl
            have hfs82 := blk_frozen BK270.out 2
            have hns82_0 := NB231_270.out
            have hns82_1 := NB245_270.out
            have hns82_2 := NB259_270.out
            have hms82_0 := NB270_231.out
            have hms82_1 := NB270_245.out
            have hms82_2 := NB270_259.out
            refine skip_ (w1 := ?_) (by rfl) rfl ?_ ?_
            rotate_left
            · go_simp
              rfl
            refine hK.out _ _ ⟨((cell_far (p := ⟨gb270, _, none⟩) NB259_270.out _).trans (((cell_far (p := ⟨gb270, _, none⟩) NB259_270.out _).trans (((cell_far (p := ⟨gb270, _, none⟩) NB259_270.out _).trans (hHeld.1)))))), ((cell_far (p := ⟨gb270, _, none⟩) NB259_270.out _).trans (((cell_far (p := ⟨gb270, _, none⟩) NB259_270.out _).trans (((cell_far (p := ⟨gb270, _, none⟩) NB259_270.out _).trans (hHeld.2.1)))))), ((cell_far (p := ⟨gb270, _, none⟩) NB259_270.out _).trans (((cell_far (p := ⟨gb270, _, none⟩) NB259_270.out _).trans (((cell_far (p := ⟨gb270, _, none⟩) NB259_270.out _).trans (hHeld.2.2))))))⟩ (fun hHeld => ?_)
            clear hK K
            refine pure_ (i := 10) (N := some 11) (v := ?_) (a' := ?_) #[true, true, true, true, true, true, true, true, true, true, true] rfl rfl (any_of HT_.out (by kernel_rfl)) (fun _ _ _ h => h) (Or.inl ⟨by rfl, ?_⟩) ?_ ?_
            rotate_left
            · intro w'
              go_simp
              with_reducible rfl
            rotate_left
            · simp only [Act.put, List.setIfInBounds_toArray, List.set_cons_zero, List.set_cons_succ, i64_w, i32_w]
              rfl
            refine done_ (done_of HT_.out (by kernel_rfl)) ?_
            try go_wp2
            have n0_ : Aside0 (Kd.R k25 25 (((w79.setCell ⟨gb270, 0, none⟩ (.int .i64 t266)).setCell ⟨gb270, 1, none⟩ (.int .i64 t267)).setCell ⟨gb270, 2, none⟩ (.string t268)) w.heap.size (fun k_ => some k_ ≠ (v264 : Value).ownBlock ∧ k_ ≠ gb231 ∧ k_ ≠ gb245 ∧ k_ ≠ gb259 ∧ k_ ≠ gb270) (.slice Ao65 y252.length co65) y252) := ⟨by (with_reducible repeat (first | apply Kd.R_alloc | apply Kd.R_drewN | apply Kd.R_drew)); exact Kd.R_mono (Kd.R_far (p := ⟨gb270, 2, none⟩) (Kd.R_far (p := ⟨gb270, 1, none⟩) (Kd.R_far (p := ⟨gb270, 0, none⟩) (Kd.R_mono HO254.out (fun k_ hk => (⟨hk, hk.2.2.2.2⟩ : _ ∧ k_ ≠ gb270))) (fun _ hk => hk.2) (.int .i64 t266)) (fun _ hk => hk.2) (.int .i64 t267)) (fun _ hk => hk.2) (.string t268)) (fun _ hk => ⟨hk.1.1, ⟨hk.1.2.1, ⟨hk.1.2.2.1, ⟨hk.1.2.2.2.1, hk.1.2.2.2.2⟩⟩⟩⟩)⟩
            have n1_ : Aside0 (Kd.R k25 25 (((w79.setCell ⟨gb270, 0, none⟩ (.int .i64 t266)).setCell ⟨gb270, 1, none⟩ (.int .i64 t267)).setCell ⟨gb270, 2, none⟩ (.string t268)) w.heap.size (fun k_ => some k_ ≠ (.slice Ao65 y252.length co65 : Value).ownBlock ∧ k_ ≠ gb231 ∧ k_ ≠ gb245 ∧ k_ ≠ gb259 ∧ k_ ≠ gb270) v264 y263) := ⟨by (with_reducible repeat (first | apply Kd.R_alloc | apply Kd.R_drewN | apply Kd.R_drew)); exact Kd.R_mono (Kd.R_far (p := ⟨gb270, 2, none⟩) (Kd.R_far (p := ⟨gb270, 1, none⟩) (Kd.R_far (p := ⟨gb270, 0, none⟩) (Kd.R_mono HO265.out (fun k_ hk => (⟨hk, hk.2.2.2.2⟩ : _ ∧ k_ ≠ gb270))) (fun _ hk => hk.2) (.int .i64 t266)) (fun _ hk => hk.2) (.int .i64 t267)) (fun _ hk => hk.2) (.string t268)) (fun _ hk => ⟨hk.1.1, ⟨hk.1.2.1, ⟨hk.1.2.2.1, ⟨hk.1.2.2.2.1, hk.1.2.2.2.2⟩⟩⟩⟩)⟩
            have n2_ : Aside0 ((((w79.setCell ⟨gb270, 0, none⟩ (.int .i64 t266)).setCell ⟨gb270, 1, none⟩ (.int .i64 t267)).setCell ⟨gb270, 2, none⟩ (.string t268)).heap[gb231]? = some (.cells #[.int .i64 t227, .int .i64 t228, .string t229] 25 (0, 0))) := ⟨by (with_reducible repeat (first | refine blk_drewN ?_ _ | refine blk_drew ?_ | refine blk_alloc ?_ _)); refine blk_far ?_ NB231_270.out _; (with_reducible repeat (first | refine blk_drewN ?_ _ | refine blk_drew ?_ | refine blk_alloc ?_ _)); refine blk_far ?_ NB231_270.out _; (with_reducible repeat (first | refine blk_drewN ?_ _ | refine blk_drew ?_ | refine blk_alloc ?_ _)); refine blk_far ?_ NB231_270.out _; (with_reducible repeat (first | refine blk_drewN ?_ _ | refine blk_drew ?_ | refine blk_alloc ?_ _)); exact BK231.out⟩
            have n3_ : Aside0 ((((w79.setCell ⟨gb270, 0, none⟩ (.int .i64 t266)).setCell ⟨gb270, 1, none⟩ (.int .i64 t267)).setCell ⟨gb270, 2, none⟩ (.string t268)).heap[gb245]? = some (.cells #[.int .i64 t241, .int .i64 t242, .string t243] 25 (0, 0))) := ⟨by (with_reducible repeat (first | refine blk_drewN ?_ _ | refine blk_drew ?_ | refine blk_alloc ?_ _)); refine blk_far ?_ NB245_270.out _; (with_reducible repeat (first | refine blk_drewN ?_ _ | refine blk_drew ?_ | refine blk_alloc ?_ _)); refine blk_far ?_ NB245_270.out _; (with_reducible repeat (first | refine blk_drewN ?_ _ | refine blk_drew ?_ | refine blk_alloc ?_ _)); refine blk_far ?_ NB245_270.out _; (with_reducible repeat (first | refine blk_drewN ?_ _ | refine blk_drew ?_ | refine blk_alloc ?_ _)); exact BK245.out⟩
            have n4_ : Aside0 ((((w79.setCell ⟨gb270, 0, none⟩ (.int .i64 t266)).setCell ⟨gb270, 1, none⟩ (.int .i64 t267)).setCell ⟨gb270, 2, none⟩ (.string t268)).heap[gb259]? = some (.cells #[.int .i64 t255, .int .i64 t256, .string t257] 25 (0, 0))) := ⟨by (with_reducible repeat (first | refine blk_drewN ?_ _ | refine blk_drew ?_ | refine blk_alloc ?_ _)); refine blk_far ?_ NB259_270.out _; (with_reducible repeat (first | refine blk_drewN ?_ _ | refine blk_drew ?_ | refine blk_alloc ?_ _)); refine blk_far ?_ NB259_270.out _; (with_reducible repeat (first | refine blk_drewN ?_ _ | refine blk_drew ?_ | refine blk_alloc ?_ _)); refine blk_far ?_ NB259_270.out _; (with_reducible repeat (first | refine blk_drewN ?_ _ | refine blk_drew ?_ | refine blk_alloc ?_ _)); exact BK259.out⟩
            have n5_ : Aside0 ((((w79.setCell ⟨gb270, 0, none⟩ (.int .i64 t266)).setCell ⟨gb270, 1, none⟩ (.int .i64 t267)).setCell ⟨gb270, 2, none⟩ (.string t268)).heap[gb270]? = some (.cells #[.int .i64 t266, .int .i64 t267, .string t268] 25 (0, 0))) := ⟨by (with_reducible repeat (first | refine blk_drewN ?_ _ | refine blk_drew ?_ | refine blk_alloc ?_ _)); refine blk_put (cs := #[.int .i64 t266, .int .i64 t267, .string (⟨#[]⟩ : ByteArray)]) ?_ 2 _ rfl; (with_reducible repeat (first | refine blk_drewN ?_ _ | refine blk_drew ?_ | refine blk_alloc ?_ _)); refine blk_put (cs := #[.int .i64 t266, .int .i64 0, .string (⟨#[]⟩ : ByteArray)]) ?_ 1 _ rfl; (with_reducible repeat (first | refine blk_drewN ?_ _ | refine blk_drew ?_ | refine blk_alloc ?_ _)); refine blk_put (cs := #[.int .i64 0, .int .i64 0, .string (⟨#[]⟩ : ByteArray)]) ?_ 0 _ rfl; (with_reducible repeat (first | refine blk_drewN ?_ _ | refine blk_drew ?_ | refine blk_alloc ?_ _)); exact BK270.out⟩
            have n6_ : Aside0 (Below w.heap.size w (((w79.setCell ⟨gb270, 0, none⟩ (.int .i64 t266)).setCell ⟨gb270, 1, none⟩ (.int .i64 t267)).setCell ⟨gb270, 2, none⟩ (.string t268))) := ⟨by repeat (first | (with_reducible first | exact HB.out | apply below_alloc | apply pw_below_drewN | apply below_drew1 | refine below_set ?_ GE231.out | refine below_set ?_ GE245.out | refine below_set ?_ GE259.out | refine below_set ?_ GE270.out) | exact HB.out)⟩
            (try clear HO254)
            (try clear HO265)
            (try clear BK231)
            (try clear BK245)
            (try clear BK259)
            (try clear BK270)
            (try clear HB)
            generalize (((w79.setCell ⟨gb270, 0, none⟩ (.int .i64 t266)).setCell ⟨gb270, 1, none⟩ (.int .i64 t267)).setCell ⟨gb270, 2, none⟩ (.string t268)) = w83 at n0_ n1_ n2_ n3_ n4_ n5_ n6_ ⊢
            have HO254 := n0_
            have HO265 := n1_
            have BK231 := n2_
            have BK245 := n3_
            have BK259 := n4_
            have BK270 := n5_
            have HB := n6_
            clear n0_ n1_ n2_ n3_ n4_ n5_ n6_
            have n0_ := Aside0.mk (Kd.R_drew HO254.out)
            have n1_ := Aside0.mk (Kd.R_drew HO265.out)
            have n2_ := Aside0.mk (blk_drew BK231.out)
            have n3_ := Aside0.mk (blk_drew BK245.out)
            have n4_ := Aside0.mk (blk_drew BK259.out)
            have n5_ := Aside0.mk (blk_drew BK270.out)
            have n6_ := Aside0.mk (below_drew1 HB.out)
            clear HO254
            clear HO265
            clear BK231
            clear BK245
            clear BK259
            clear BK270
            clear HB
            have HO254 := n0_
            have HO265 := n1_
            have BK231 := n2_
            have BK245 := n3_
            have BK259 := n4_
            have BK270 := n5_
            have HB := n6_
            clear n0_ n1_ n2_ n3_ n4_ n5_ n6_
            refine start_ (n := 9) (S := fun w' => w'.cell? ⟨gb270, 0, none⟩ = some (.int .i64 t266) ∧ w'.cell? ⟨gb270, 1, none⟩ = some (.int .i64 t267) ∧ w'.cell? ⟨gb270, 2, none⟩ = some (.string t268)) (ds := []) #[false, false, false, false, false, false, false, false, false] (by kernel_rfl) rfl rfl ⟨(blk_cell BK270.out 0).trans rfl, (blk_cell BK270.out 1).trans rfl, (blk_cell BK270.out 2).trans rfl⟩ (fun hHeld => ?_); refine with_tabW hasplaw03_ArithWhole.tab13 hasplaw03_ArithWhole.bits13 (fun HT_ HW_ => ?_)
            generalize w83.drew = w84 at HO254 HO265 BK231 BK245 BK259 BK270 HB hHeld ⊢
            refine pure_ (i := 0) (N := some 87) (v := ?_) (a' := ?_) #[true, false, false, false, false, false, false, false, false] rfl rfl (any_of HT_.out (by kernel_rfl)) (fun _ _ _ h => h) (Or.inl ⟨by rfl, ?_⟩) ?_ ?_
            rotate_left
            · intro w'
              go_simp
              with_reducible rfl
            rotate_left
            · simp only [Act.put, List.setIfInBounds_toArray, List.set_cons_zero, List.set_cons_succ, i64_w, i32_w]
              rfl
            refine pure_ (i := 1) (N := some 88) (v := ?_) (a' := ?_) #[true, true, false, false, false, false, false, false, false] rfl rfl (any_of HT_.out (by kernel_rfl)) (fun _ _ _ h => h) (Or.inl ⟨by rfl, ?_⟩) ?_ ?_
            rotate_left
            · intro w'
              go_simp
              with_reducible rfl
            rotate_left
            · simp only [Act.put, List.setIfInBounds_toArray, List.set_cons_zero, List.set_cons_succ, i64_w, i32_w]
              rfl
            refine pure_ (i := 2) (N := some 89) (v := ?_) (a' := ?_) #[true, true, true, false, false, false, false, false, false] rfl rfl (any_of HT_.out (by kernel_rfl)) (fun _ _ _ h => h) (Or.inl ⟨by rfl, ?_⟩) ?_ ?_
            rotate_left
            · intro w'
              go_simp
              with_reducible rfl
            rotate_left
            · simp only [Act.put, List.setIfInBounds_toArray, List.set_cons_zero, List.set_cons_succ, i64_w, i32_w]
              rfl
            refine pure_ (i := 4) (N := some 91) (v := ?_) (a' := ?_) #[true, true, true, false, true, false, false, false, false] rfl rfl (any_of HT_.out (by kernel_rfl)) (fun _ _ _ h => h) (Or.inl ⟨by rfl, ?_⟩) ?_ ?_
            rotate_left
            · intro w'
              go_simp
              with_reducible rfl
            rotate_left
            · simp only [Act.put, List.setIfInBounds_toArray, List.set_cons_zero, List.set_cons_succ, i64_w, i32_w]
              rfl
            refine take_ (i := 3) (N := some 90) (v := ?_) (a' := ?_) #[true, true, true, true, true, false, false, false, false] rfl rfl (take_ofW HT_.out HW_.out (by kernel_rfl)) (fun _ _ _ h => h) (Or.inl ⟨by rfl, ?_⟩) hHeld ?_ ?_
            rotate_left
            · rintro w' ⟨s0, s1, s2⟩
              go_simp
              with_reducible rfl
            rotate_left
            · simp only [Act.put, List.setIfInBounds_toArray, List.set_cons_zero, List.set_cons_succ, i64_w, i32_w]
              rfl
            refine one_ (i := 5) (N := some 92) #[true, true, true, true, true, true, false, false, false] rfl rfl (one_of HT_.out (by kernel_rfl)) (by decide) (fun K hK => ?_)
            refine goes_ Try.func17 (by kernel_rfl) rfl #[.int .i64 a0] (by rfl) rfl rfl (by (try simp only [List.map_toArray, List.map_cons, List.map_nil]); first | done | rfl | (simp only [List.length_drop, List.length_take]; rfl)) ?_
            with_reducible refine (hasplaw03_num.calls a0 t218 t219 t220 _ A60.out).mono ?_
            rintro e w85 ⟨rfl, hb⟩
            refine ⟨_, rfl, ?_⟩
            have n0_ := Aside0.mk (Kd.R_below (by (with_reducible repeat (first | apply Kd.R_alloc | apply Kd.R_drewN | apply Kd.R_drew)); exact HO254.out) hb)
            have n1_ := Aside0.mk (Kd.R_below (by (with_reducible repeat (first | apply Kd.R_alloc | apply Kd.R_drewN | apply Kd.R_drew)); exact HO265.out) hb)
            have n2_ := Aside0.mk (blk_below (g := gb231) (o := .cells #[.int .i64 t227, .int .i64 t228, .string t229] 25 (0, 0)) (by (with_reducible repeat (first | refine blk_drewN ?_ _ | refine blk_drew ?_ | refine blk_alloc ?_ _)); exact BK231.out) hb)
            have n3_ := Aside0.mk (blk_below (g := gb245) (o := .cells #[.int .i64 t241, .int .i64 t242, .string t243] 25 (0, 0)) (by (with_reducible repeat (first | refine blk_drewN ?_ _ | refine blk_drew ?_ | refine blk_alloc ?_ _)); exact BK245.out) hb)
            have n4_ := Aside0.mk (blk_below (g := gb259) (o := .cells #[.int .i64 t255, .int .i64 t256, .string t257] 25 (0, 0)) (by (with_reducible repeat (first | refine blk_drewN ?_ _ | refine blk_drew ?_ | refine blk_alloc ?_ _)); exact BK259.out) hb)
            have n5_ := Aside0.mk (blk_below (g := gb270) (o := .cells #[.int .i64 t266, .int .i64 t267, .string t268] 25 (0, 0)) (by (with_reducible repeat (first | refine blk_drewN ?_ _ | refine blk_drew ?_ | refine blk_alloc ?_ _)); exact BK270.out) hb)
            have n6_ := Aside0.mk (below_step (by repeat (first | (with_reducible first | exact HB.out | apply below_alloc | apply pw_below_drewN | apply below_drew1 | refine below_set ?_ GE231.out | refine below_set ?_ GE245.out | refine below_set ?_ GE259.out | refine below_set ?_ GE270.out) | exact HB.out)) hb)
            clear HO254
            clear HO265
            clear BK231
            clear BK245
            clear BK259
            clear BK270
            clear HB
            have HO254 := n0_
            have HO265 := n1_
            have BK231 := n2_
            have BK245 := n3_
            have BK259 := n4_
            have BK270 := n5_
            have HB := n6_
            clear n0_ n1_ n2_ n3_ n4_ n5_ n6_
            (try clear hb)
            (try clear hb2)
            (try clear hk)
            (try clear hi)
            refine hK.out _ _ ⟨(blk_cell BK270.out 0).trans rfl, (blk_cell BK270.out 1).trans rfl, (blk_cell BK270.out 2).trans rfl⟩ (fun hHeld => ?_)
            clear hK K
            refine norm_ (a' := ?_) ?_ ?_
            rotate_left
            · show Act.put _ (some 92) _ = _
              simp only [Act.put, List.setIfInBounds_toArray, List.set_cons_zero, List.set_cons_succ, i64_w, i32_w]
              rfl
            refine pure_ (i := 6) (N := some 93) (v := ?_) (a' := ?_) #[true, true, true, true, true, true, true, false, false] rfl rfl (any_of HT_.out (by kernel_rfl)) (fun _ _ _ h => h) (Or.inl ⟨by rfl, ?_⟩) ?_ ?_
            rotate_left
            · intro w'
              go_simp
              with_reducible rfl
            rotate_left
            · simp only [Act.put, List.setIfInBounds_toArray, List.set_cons_zero, List.set_cons_succ, i64_w, i32_w]
              rfl
            refine pure_ (i := 7) (N := some 94) (v := ?_) (a' := ?_) #[true, true, true, true, true, true, true, true, false] rfl rfl (any_of HT_.out (by kernel_rfl)) (fun _ _ _ h => h) (Or.inl ⟨by rfl, ?_⟩) ?_ ?_
            rotate_left
            · intro w'
              go_simp
              with_reducible rfl
            rotate_left
            · simp only [Act.put, List.setIfInBounds_toArray, List.set_cons_zero, List.set_cons_succ, i64_w, i32_w]
              rfl
            refine pure_ (i := 8) (N := some 4) (v := ?_) (a' := ?_) #[true, true, true, true, true, true, true, true, true] rfl rfl (any_of HT_.out (by kernel_rfl)) (fun _ _ _ h => h) (Or.inl ⟨by rfl, ?_⟩) ?_ ?_
            rotate_left
            · intro w'
              go_simp
              with_reducible rfl
            rotate_left
            · simp only [Act.put, List.setIfInBounds_toArray, List.set_cons_zero, List.set_cons_succ, i64_w, i32_w]
              rfl
            refine done_ (done_of HT_.out (by kernel_rfl)) ?_
            try go_wp2
            go_ret
            exact ⟨by first | rfl | (simp [errW_none, errW_some] <;> rfl) | (simp [*, errW_none, errW_some] <;> rfl), by repeat (first | (with_reducible first | exact HB.out | apply below_alloc | apply pw_below_drewN | apply below_drew1 | refine below_set ?_ GE231.out | refine below_set ?_ GE245.out | refine below_set ?_ GE259.out | refine below_set ?_ GE270.out) | exact HB.out)⟩
          · rw [if_neg c59] at H
            have c59b0 : (t269 == 0) = false := beq_eq_false_iff_ne.mpr c59
            have c59b1 : (t269 != 0) = true := bne_iff_ne.mpr c59
            obtain rfl := Option.some.inj H
            exact absurd hr Bool.false_ne_true
        · rw [if_neg c56] at H
          have c56b0 : (t258 == 0) = false := beq_eq_false_iff_ne.mpr c56
          have c56b1 : (t258 != 0) = true := bne_iff_ne.mpr c56
          by_cases c110 : t258 = 31
          · rw [if_pos c110] at H
            have c110b0 : (t258 == 31) = true := beq_iff_eq.mpr c110
            have c110b1 : (t258 != 31) = false := bne_eq_false_iff_eq.mpr c110
            clear c110
            by_cases c111 : ((decide (a0 < 0)) == (decide (a1 < 0))) = true
            · rw [if_pos c111] at H
              have c111b0 : ((decide (a0 < 0)) == (decide (a1 < 0))) = true := c111
              (try (have c111b1 : decide ((decide (a0 < 0)) = (decide (a1 < 0))) = true := by simpa using c111))
              (try (have c111b2 : ((decide (a0 < 0)) == (decide (a1 < 0))) = true := by simpa using c111))
              clear c111
              by_cases c112 : a0 = 0
              · rw [if_pos c112] at H
                have c112b0 : (a0 == 0) = true := beq_iff_eq.mpr c112
                have c112b1 : (a0 != 0) = false := bne_eq_false_iff_eq.mpr c112
                clear c112
                obtain rfl := Option.some.inj H
                exact absurd hr Bool.false_ne_true
              · rw [if_neg c112] at H
                have c112b0 : (a0 == 0) = false := beq_eq_false_iff_ne.mpr c112
                have c112b1 : (a0 != 0) = true := bne_iff_ne.mpr c112
                obtain rfl := Option.some.inj H
                clear hr
                go_wp2_with (first | ((with_reducible refine gate_callee (f := 17) rfl ?_); refine goesL_ (some 70) rfl rfl Try.func17 (by kernel_rfl) rfl #[.int .i64 a0] rfl (by (try simp only [List.map_toArray, List.map_cons, List.map_nil]); first | done | rfl | (simp only [List.length_drop, List.length_take]; rfl)) ?_; (with_reducible refine (hasplaw03_num.calls a0 t246 t247 t248 _ A53.out).mono ?_); rintro e w123 ⟨rfl, hb⟩; refine ⟨_, rfl, ?_⟩; have n0_ := Aside0.mk (blk_below (g := gb231) (o := .cells #[.int .i64 t227, .int .i64 t228, .string t229] 25 (0, 0)) (by (with_reducible repeat (first | refine blk_drewN ?_ _ | refine blk_drew ?_ | refine blk_alloc ?_ _)); exact BK231.out) hb); have n1_ := Aside0.mk (blk_below (g := gb245) (o := .cells #[.int .i64 t241, .int .i64 t242, .string t243] 25 (0, 0)) (by (with_reducible repeat (first | refine blk_drewN ?_ _ | refine blk_drew ?_ | refine blk_alloc ?_ _)); exact BK245.out) hb); have n2_ := Aside0.mk (below_step (by repeat (first | (with_reducible first | exact HB.out | apply below_alloc | apply pw_below_drewN | apply below_drew1 | refine below_set ?_ GE231.out | refine below_set ?_ GE245.out) | exact HB.out)) hb); clear BK231; clear BK245; clear HB; have BK231 := n0_; have BK245 := n1_; have HB := n2_; clear n0_ n1_ n2_; (try clear hb); (try clear hb2); (try clear hk); (try clear hi)) | ((with_reducible refine gate_callee (f := 17) rfl ?_); refine goesL_ (some 72) rfl rfl Try.func17 (by kernel_rfl) rfl #[.int .i64 a1] rfl (by (try simp only [List.map_toArray, List.map_cons, List.map_nil]); first | done | rfl | (simp only [List.length_drop, List.length_take]; rfl)) ?_; (with_reducible refine (hasplaw03_num.calls a1 t221 t222 t223 _ A54.out).mono ?_); rintro e w124 ⟨rfl, hb⟩; refine ⟨_, rfl, ?_⟩; have n0_ := Aside0.mk (blk_below (g := gb231) (o := .cells #[.int .i64 t227, .int .i64 t228, .string t229] 25 (0, 0)) (by (with_reducible repeat (first | refine blk_drewN ?_ _ | refine blk_drew ?_ | refine blk_alloc ?_ _)); exact BK231.out) hb); have n1_ := Aside0.mk (blk_below (g := gb245) (o := .cells #[.int .i64 t241, .int .i64 t242, .string t243] 25 (0, 0)) (by (with_reducible repeat (first | refine blk_drewN ?_ _ | refine blk_drew ?_ | refine blk_alloc ?_ _)); exact BK245.out) hb); have n2_ := Aside0.mk (below_step (by repeat (first | (with_reducible first | exact HB.out | apply below_alloc | apply pw_below_drewN | apply below_drew1 | refine below_set ?_ GE231.out | refine below_set ?_ GE245.out) | exact HB.out)) hb); clear BK231; clear BK245; clear HB; have BK231 := n0_; have BK245 := n1_; have HB := n2_; clear n0_ n1_ n2_; (try clear hb); (try clear hb2); (try clear hk); (try clear hi)) | ((with_reducible refine gate_dst (N := 73) rfl ?_); refine Kd.R_lit k25 _ 25 ?hg (N := 73) ?hd (xs := ([(⟨t246, t247, t248⟩ : S25), (⟨t221, t222, t223⟩ : S25)] : List (S25))) (inner := [.int .i64 t246, .int .i64 t247, .string t248, .int .i64 t221, .int .i64 t222, .string t223]) (ok := fun _ => True) (okp := fun _ => True) ?hr ?hp (fun _ hk => hk) trivial (Below.refl _ _) (Nat.le_refl _) (by simp) ?_; (case hd => rfl); (case hg => rfl); (case hr => first | (go_simp; done) | (go_simp; rfl)); (case hp => exact (Reps.c3 (show Kd.M k25 _ _ _ (⟨t246, t247, t248⟩ : S25) [.int .i64 t246, .int .i64 t247, .string t248] from (k25_mkM _ _ _ (⟨t246, t247, t248⟩ : S25) )) (Reps.c3 (show Kd.M k25 _ _ _ (⟨t221, t222, t223⟩ : S25) [.int .i64 t221, .int .i64 t222, .string t223] from (k25_mkM _ _ _ (⟨t221, t222, t223⟩ : S25) )) (Reps.none _ _)))); intro v253 w125 ho126 hb hg_ hnew_; clear hg_ hnew_; (first | rw [← Ny252.out] at ho126 | (simp only [Int.reduceToNat] at ho126; rw [← Ny252.out] at ho126)); have n0_ := Aside0.mk (Kd.R_lower (Kd.R_newB (Kd.R_newB ho126 (g := gb231) (o := .cells #[.int .i64 t227, .int .i64 t228, .string t229] 25 (0, 0)) (by (with_reducible repeat (first | refine blk_drewN ?_ _ | refine blk_drew ?_ | refine blk_alloc ?_ _)); exact BK231.out)) (g := gb245) (o := .cells #[.int .i64 t241, .int .i64 t242, .string t243] 25 (0, 0)) (by (with_reducible repeat (first | refine blk_drewN ?_ _ | refine blk_drew ?_ | refine blk_alloc ?_ _)); exact BK245.out)) (below_size (by repeat (first | (with_reducible first | exact HB.out | apply below_alloc | apply pw_below_drewN | apply below_drew1 | refine below_set ?_ GE231.out | refine below_set ?_ GE245.out) | exact HB.out)))); have n1_ := Aside0.mk (blk_below (g := gb231) (o := .cells #[.int .i64 t227, .int .i64 t228, .string t229] 25 (0, 0)) (by (with_reducible repeat (first | refine blk_drewN ?_ _ | refine blk_drew ?_ | refine blk_alloc ?_ _)); exact BK231.out) hb); have n2_ := Aside0.mk (blk_below (g := gb245) (o := .cells #[.int .i64 t241, .int .i64 t242, .string t243] 25 (0, 0)) (by (with_reducible repeat (first | refine blk_drewN ?_ _ | refine blk_drew ?_ | refine blk_alloc ?_ _)); exact BK245.out) hb); have n3_ := Aside0.mk (below_step (by repeat (first | (with_reducible first | exact HB.out | apply below_alloc | apply pw_below_drewN | apply below_drew1 | refine below_set ?_ GE231.out | refine below_set ?_ GE245.out) | exact HB.out)) hb); clear BK231; clear BK245; clear HB; have HO254 := n0_; have BK231 := n1_; have BK245 := n2_; have HB := n3_; clear n0_ n1_ n2_ n3_; clear hb ho126; obtain ⟨Ao127, co127, eo127⟩ := Kd.R_slice HO254.out; subst eo127) | ((with_reducible refine gate_callee (f := 12) rfl ?_); refine goesL_ (some 74) rfl rfl Try.func12 (by kernel_rfl) rfl #[.int .i64 7, .slice Ao127 y252.length co127] rfl (by (try simp only [List.map_toArray, List.map_cons, List.map_nil]); first | done | rfl | (simp only [List.length_drop, List.length_take]; rfl)) ?_; (with_reducible refine (arith_Do.calls kj10 7 _ _ y252 t255 t256 t257 t258 _ ?side1 ?side2 A55.out).mono ?_); (case side1 => repeat (first | exact (Kd.R_reads' HO254.out).2.2 | (with_reducible refine Kd.C_alloc ?_ _) | (with_reducible refine Kd.C_drewN ?_ _) | (with_reducible refine Kd.C_drew ?_))); (case side2 => exact (Kd.R_reads' HO254.out).2.1); rintro e w128 ⟨rfl, hb⟩; refine ⟨_, rfl, ?_⟩; have n0_ := Aside0.mk (Kd.R_below (by (with_reducible repeat (first | apply Kd.R_alloc | apply Kd.R_drewN | apply Kd.R_drew)); exact HO254.out) hb); have n1_ := Aside0.mk (blk_below (g := gb231) (o := .cells #[.int .i64 t227, .int .i64 t228, .string t229] 25 (0, 0)) (by (with_reducible repeat (first | refine blk_drewN ?_ _ | refine blk_drew ?_ | refine blk_alloc ?_ _)); exact BK231.out) hb); have n2_ := Aside0.mk (blk_below (g := gb245) (o := .cells #[.int .i64 t241, .int .i64 t242, .string t243] 25 (0, 0)) (by (with_reducible repeat (first | refine blk_drewN ?_ _ | refine blk_drew ?_ | refine blk_alloc ?_ _)); exact BK245.out) hb); have n3_ := Aside0.mk (below_step (by repeat (first | (with_reducible first | exact HB.out | apply below_alloc | apply pw_below_drewN | apply below_drew1 | refine below_set ?_ GE231.out | refine below_set ?_ GE245.out) | exact HB.out)) hb); clear HO254; clear BK231; clear BK245; clear HB; have HO254 := n0_; have BK231 := n1_; have BK245 := n2_; have HB := n3_; clear n0_ n1_ n2_ n3_; (try clear hb); (try clear hb2); (try clear hk); (try clear hi)) | ((with_reducible refine gate_dst (N := 9) rfl ?_); refine box_event ?hg (N := 9) ?hd (cs := #[.int .i64 0, .int .i64 0, .string (⟨#[]⟩ : ByteArray)]) (t := 25) ?hr ?_; (case hd => rfl); (case hg => rfl); (case hr => first | (go_simp; done) | (go_simp; rfl)); intro gb259 hg w129 hbox hb; have n0_ := Aside0.mk (Kd.R_below (Kd.R_elderB (by (with_reducible repeat (first | apply Kd.R_alloc | apply Kd.R_drewN | apply Kd.R_drew)); exact HO254.out) gb259 (Nat.le_of_eq hg.symm)) hb); have n1_ := Aside0.mk (blk_below (g := gb231) (o := .cells #[.int .i64 t227, .int .i64 t228, .string t229] 25 (0, 0)) (by (with_reducible repeat (first | refine blk_drewN ?_ _ | refine blk_drew ?_ | refine blk_alloc ?_ _)); exact BK231.out) hb); have n2_ := Aside0.mk (blk_below (g := gb245) (o := .cells #[.int .i64 t241, .int .i64 t242, .string t243] 25 (0, 0)) (by (with_reducible repeat (first | refine blk_drewN ?_ _ | refine blk_drew ?_ | refine blk_alloc ?_ _)); exact BK245.out) hb); have n3_ := Aside0.mk (below_step (by repeat (first | (with_reducible first | exact HB.out | apply below_alloc | apply pw_below_drewN | apply below_drew1 | refine below_set ?_ GE231.out | refine below_set ?_ GE245.out) | exact HB.out)) hb); have n4_ := Aside0.mk (hbox); have n5_ := Aside0.mk ((by rw [hg]; exact (below_size (by repeat (first | (with_reducible first | exact HB.out | apply below_alloc | apply pw_below_drewN | apply below_drew1 | refine below_set ?_ GE231.out | refine below_set ?_ GE245.out) | exact HB.out))) : w.heap.size ≤ gb259)); have n6_ := Aside0.mk ((by rw [hg]; exact (below_size (by repeat (first | (with_reducible first | exact HB.out | apply below_alloc | apply pw_below_drewN | apply below_drew1 | refine below_set ?_ GE231.out | refine below_set ?_ GE245.out) | exact HB.out))) : w.heap.size ≤ gb259)); have n7_ := Aside0.mk ((by rw [hg]; exact Nat.ne_of_lt (blk_lt (g := gb231) (o := .cells #[.int .i64 t227, .int .i64 t228, .string t229] 25 (0, 0)) (by (with_reducible repeat (first | refine blk_drewN ?_ _ | refine blk_drew ?_ | refine blk_alloc ?_ _)); exact BK231.out)) : gb231 ≠ gb259)); have n8_ := Aside0.mk ((by rw [hg]; exact Nat.ne_of_gt (blk_lt (g := gb231) (o := .cells #[.int .i64 t227, .int .i64 t228, .string t229] 25 (0, 0)) (by (with_reducible repeat (first | refine blk_drewN ?_ _ | refine blk_drew ?_ | refine blk_alloc ?_ _)); exact BK231.out)) : gb259 ≠ gb231)); have n9_ := Aside0.mk ((by rw [hg]; exact Nat.ne_of_lt (blk_lt (g := gb245) (o := .cells #[.int .i64 t241, .int .i64 t242, .string t243] 25 (0, 0)) (by (with_reducible repeat (first | refine blk_drewN ?_ _ | refine blk_drew ?_ | refine blk_alloc ?_ _)); exact BK245.out)) : gb245 ≠ gb259)); have n10_ := Aside0.mk ((by rw [hg]; exact Nat.ne_of_gt (blk_lt (g := gb245) (o := .cells #[.int .i64 t241, .int .i64 t242, .string t243] 25 (0, 0)) (by (with_reducible repeat (first | refine blk_drewN ?_ _ | refine blk_drew ?_ | refine blk_alloc ?_ _)); exact BK245.out)) : gb259 ≠ gb245)); clear HO254; clear BK231; clear BK245; clear HB; have HO254 := n0_; have BK231 := n1_; have BK245 := n2_; have HB := n3_; have BK259 := n4_; have GW259 := n5_; have GE259 := n6_; have NB231_259 := n7_; have NB259_231 := n8_; have NB245_259 := n9_; have NB259_245 := n10_; clear n0_ n1_ n2_ n3_ n4_ n5_ n6_ n7_ n8_ n9_ n10_; clear hb hbox hg; have hnb130 := NB259_231.out; have hnc130 := NB231_259.out; have hnb131 := NB259_245.out; have hnc131 := NB245_259.out; have hcz132_0 : w129.cell? ⟨gb259, 0, none⟩ = some (.int .i64 0) := (blk_cell BK259.out 0).trans rfl; have hcz132_1 : w129.cell? ⟨gb259, 1, none⟩ = some (.int .i64 0) := (blk_cell BK259.out 1).trans rfl; have hcz132_2 : w129.cell? ⟨gb259, 2, none⟩ = some (.string (⟨#[]⟩ : ByteArray)) := (blk_cell BK259.out 2).trans rfl; have hfz132_0 := blk_frozen BK259.out 0; have hfz132_1 := blk_frozen BK259.out 1; have hfz132_2 := blk_frozen BK259.out 2))
                go_ret
                exact ⟨by first | rfl | (simp [errW_none, errW_some] <;> rfl) | (simp [*, errW_none, errW_some] <;> rfl), by repeat (first | (with_reducible first | exact HB.out | apply below_alloc | apply pw_below_drewN | apply below_drew1 | refine below_set ?_ GE231.out | refine below_set ?_ GE245.out | refine below_set ?_ GE259.out) | exact HB.out)⟩
            · rw [if_neg c111] at H
              have c111b0 : ((decide (a0 < 0)) == (decide (a1 < 0))) = false := by simpa using c111
              (try (have c111b1 : decide ((decide (a0 < 0)) = (decide (a1 < 0))) = false := by simpa using c111))
              (try (have c111b2 : ((decide (a0 < 0)) == (decide (a1 < 0))) = false := by simpa using c111))
              (try (have c111b3 : ¬ ((decide (a0 < 0)) = (decide (a1 < 0))) := by simpa using c111))
              clear c111
              obtain rfl := Option.some.inj H
              exact absurd hr Bool.false_ne_true
          · rw [if_neg c110] at H
            have c110b0 : (t258 == 31) = false := beq_eq_false_iff_ne.mpr c110
            have c110b1 : (t258 != 31) = true := bne_iff_ne.mpr c110
            obtain rfl := Option.some.inj H
            exact absurd hr Bool.false_ne_true
  · replace c4 := Bool.eq_false_iff.mpr c4
    subst c4
    have H1 : (some false) = some r := by rw [if_neg (show ¬ (false = true) by decide)] at H; exact H
    clear H
    have H := H1
    clear H1
    obtain rfl := Option.some.inj H
    exact absurd hr Bool.false_ne_true
end Go.Proofs.Ytbdengnadgofmaa.V
