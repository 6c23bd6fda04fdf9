import Derived.Test.YtbdengnadgofmaaZdVx0
import Derived.Test.YtbdengnadgofmaaZdVx1
import Derived.Test.YtbdengnadgofmaaZdVx4
import Derived.Test.YtbdengnadgofmaaZdVx5
namespace Go.Proofs.Ytbdengnadgofmaa.V
open Go.RowKit Go.Proofs.YtbdengnadgofmaaW.PrintWords Go.Proofs.YtbdengnadgofmaaW.PrintLast Go.Proofs.YtbdengnadgofmaaW.PrintMore
attribute [local go_sem] max2_int min2_int max_two min_two max_three min_three max_four min_four   -- for this text's walks alone
set_option linter.unusedVariables false
set_option linter.unusedSimpArgs false
attribute [local go_sem high] eqA25
/-! ### hasplaw03_speaksG: function 9 -/
def hasplaw03_speaksG.f (k : Nat)  : Option (Bool) := (hasplaw03_num.f (-9223372036854775808)).bind fun bt130 => ((hasplaw03_num.f (-1)).bind fun bt133 => ((arith_Do.f k 10 (([(⟨bt130.1, bt130.2.1, bt130.2.2⟩ : S25), (⟨bt133.1, bt133.2.1, bt133.2.2⟩ : S25)] : List (S25)))).bind fun bt139 => ((hasplaw03_num.f (-7)).bind fun bt144 => ((hasplaw03_num.f 2).bind fun bt147 => ((arith_Do.f k 11 (([(⟨bt144.1, bt144.2.1, bt144.2.2⟩ : S25), (⟨bt147.1, bt147.2.1, bt147.2.2⟩ : S25)] : List (S25)))).bind fun bt153 => ((hasplaw03_num.f 0).bind fun bt158 => ((arith_Do.f k 10 (([(⟨0, 0, (⟨#[]⟩ : ByteArray)⟩ : S25), (⟨bt158.1, bt158.2.1, bt158.2.2⟩ : S25)] : List (S25)))).bind fun bt164 => ((arith_Type.f k 7 (([0, 3] : List Int))).bind fun bt172 => ((arith_Type.f k 7 (([0, 0] : List Int))).bind fun bt177 => (if bt139.2.2.2 = 31 then ((hasplaw03_num.f (-1)).bind fun bt179 => (if (bt153.1 == bt179.1 && (bt153.2.1 == bt179.2.1 && (bt153.2.2.1.toList == bt179.2.2.toList))) = true then (if bt153.2.2.2 = 0 then (if (bt164.1 == 0 && (bt164.2.1 == 0 && (bt164.2.2.1.toList == ([] : List UInt8)))) = true then (if bt164.2.2.2 = 0 then (if bt172.1 = 3 then (if bt172.2 = true then (some (!bt177.2)) else (some false)) else (some false)) else (some false)) else (some false)) else (some false)) else (some false))) else (some false)))))))))))
def hasplaw03_speaksG.T6 : Bool × List (List Nat × List Nat) := (true, [([], []), ([0], [0]), ([1], [1]), ([2], [2]), ([2, 2], [2]), ([3, 4, 2], [2, 3, 4]), ([2, 5], [2, 5]), ([6, 4], [6]), ([7], [7]), ([8, 7], [7, 8]), ([7, 9], [7, 9]), ([10, 7], [10]), ([11], [11]), ([11], [11]), ([12, 13, 11], [11, 12, 13]), ([11, 14], [11, 14]), ([15, 11], [15]), ([16], [16]), ([17, 16], [16, 17]), ([16, 18], [16, 18]), ([19, 16], [19]), ([20], [20]), ([21, 20], [20, 21]), ([20, 22], [20, 22]), ([23, 20], [23]), ([24], [24]), ([24, 25], [24, 25]), ([26, 24], [26]), ([27], [27]), ([28, 27], [27, 28]), ([27, 29], [27, 29]), ([30, 27, 0, 1, 2, 3, 4, 5, 6, 7, 8, 9, 10, 11, 12, 13, 14, 15, 16, 17, 18, 19, 20, 21, 22, 23, 24, 25, 26, 27, 28, 29, 30], [30])])
def hasplaw03_speaksG.B6 : List Nat := [0, 1, 3, 7, 7, 31, 63, 127, 255, 511, 1023, 2047, 4095, 4095, 16383, 32767, 65535, 131071, 262143, 524287, 1048575, 2097151, 4194303, 8388607, 16777215, 33554431, 67108863, 134217727, 268435455, 536870911, 1073741823, 2147483647]
theorem hasplaw03_speaksG.tab6 : rtab .any (opsOf Try.f9 6) = hasplaw03_speaksG.T6 := by kernel_rfl
theorem hasplaw03_speaksG.bits6 : waitsOk hasplaw03_speaksG.T6.2 hasplaw03_speaksG.B6 = true := by kernel_rfl
set_option maxHeartbeats 8000000 in
set_option maxRecDepth 100000 in
theorem hasplaw03_speaksG.calls (k : Nat)  (r : Bool) (w : World) (h : hasplaw03_speaksG.f k  = some r) (hr : r = true) :
    Calls Try.prog 9 #[] w fun e w' => e = .returned (.bool r) ∧ Below w.heap.size w w' := by
  have hu25 := Try.underlying25
  have HB := Aside0.mk (Below.refl w.heap.size w)
  have H : ((hasplaw03_num.f (-9223372036854775808)).bind fun bt130 => ((hasplaw03_num.f (-1)).bind fun bt133 => ((arith_Do.f k 10 (([(⟨bt130.1, bt130.2.1, bt130.2.2⟩ : S25), (⟨bt133.1, bt133.2.1, bt133.2.2⟩ : S25)] : List (S25)))).bind fun bt139 => ((hasplaw03_num.f (-7)).bind fun bt144 => ((hasplaw03_num.f 2).bind fun bt147 => ((arith_Do.f k 11 (([(⟨bt144.1, bt144.2.1, bt144.2.2⟩ : S25), (⟨bt147.1, bt147.2.1, bt147.2.2⟩ : S25)] : List (S25)))).bind fun bt153 => ((hasplaw03_num.f 0).bind fun bt158 => ((arith_Do.f k 10 (([(⟨0, 0, (⟨#[]⟩ : ByteArray)⟩ : S25), (⟨bt158.1, bt158.2.1, bt158.2.2⟩ : S25)] : List (S25)))).bind fun bt164 => ((arith_Type.f k 7 (([0, 3] : List Int))).bind fun bt172 => ((arith_Type.f k 7 (([0, 0] : List Int))).bind fun bt177 => (if bt139.2.2.2 = 31 then ((hasplaw03_num.f (-1)).bind fun bt179 => (if (bt153.1 == bt179.1 && (bt153.2.1 == bt179.2.1 && (bt153.2.2.1.toList == bt179.2.2.toList))) = true then (if bt153.2.2.2 = 0 then (if (bt164.1 == 0 && (bt164.2.1 == 0 && (bt164.2.2.1.toList == ([] : List UInt8)))) = true then (if bt164.2.2.2 = 0 then (if bt172.1 = 3 then (if bt172.2 = true then (some (!bt177.2)) else (some false)) else (some false)) else (some false)) else (some false)) else (some false)) else (some false))) else (some false)))))))))))) = some r := h
  clear h
  replace H := Option.bind_eq_some_iff.mp H
  obtain ⟨⟨t130, t131, t132⟩, A10, H⟩ := H
  replace H : ((hasplaw03_num.f (-1)).bind fun bt133 => ((arith_Do.f k 10 (([(⟨t130, t131, t132⟩ : S25), (⟨bt133.1, bt133.2.1, bt133.2.2⟩ : S25)] : List (S25)))).bind fun bt139 => ((hasplaw03_num.f (-7)).bind fun bt144 => ((hasplaw03_num.f 2).bind fun bt147 => ((arith_Do.f k 11 (([(⟨bt144.1, bt144.2.1, bt144.2.2⟩ : S25), (⟨bt147.1, bt147.2.1, bt147.2.2⟩ : S25)] : List (S25)))).bind fun bt153 => ((hasplaw03_num.f 0).bind fun bt158 => ((arith_Do.f k 10 (([(⟨0, 0, (⟨#[]⟩ : ByteArray)⟩ : S25), (⟨bt158.1, bt158.2.1, bt158.2.2⟩ : S25)] : List (S25)))).bind fun bt164 => ((arith_Type.f k 7 (([0, 3] : List Int))).bind fun bt172 => ((arith_Type.f k 7 (([0, 0] : List Int))).bind fun bt177 => (if bt139.2.2.2 = 31 then ((hasplaw03_num.f (-1)).bind fun bt179 => (if (bt153.1 == bt179.1 && (bt153.2.1 == bt179.2.1 && (bt153.2.2.1.toList == bt179.2.2.toList))) = true then (if bt153.2.2.2 = 0 then (if (bt164.1 == 0 && (bt164.2.1 == 0 && (bt164.2.2.1.toList == ([] : List UInt8)))) = true then (if bt164.2.2.2 = 0 then (if bt172.1 = 3 then (if bt172.2 = true then (some (!bt177.2)) else (some false)) else (some false)) else (some false)) else (some false)) else (some false)) else (some false))) else (some false))))))))))) = some r := H
  have A1 := Aside0.mk A10
  clear A10
  replace H := Option.bind_eq_some_iff.mp H
  obtain ⟨⟨t133, t134, t135⟩, A20, H⟩ := H
  replace H : ((arith_Do.f k 10 (([(⟨t130, t131, t132⟩ : S25), (⟨t133, t134, t135⟩ : S25)] : List (S25)))).bind fun bt139 => ((hasplaw03_num.f (-7)).bind fun bt144 => ((hasplaw03_num.f 2).bind fun bt147 => ((arith_Do.f k 11 (([(⟨bt144.1, bt144.2.1, bt144.2.2⟩ : S25), (⟨bt147.1, bt147.2.1, bt147.2.2⟩ : S25)] : List (S25)))).bind fun bt153 => ((hasplaw03_num.f 0).bind fun bt158 => ((arith_Do.f k 10 (([(⟨0, 0, (⟨#[]⟩ : ByteArray)⟩ : S25), (⟨bt158.1, bt158.2.1, bt158.2.2⟩ : S25)] : List (S25)))).bind fun bt164 => ((arith_Type.f k 7 (([0, 3] : List Int))).bind fun bt172 => ((arith_Type.f k 7 (([0, 0] : List Int))).bind fun bt177 => (if bt139.2.2.2 = 31 then ((hasplaw03_num.f (-1)).bind fun bt179 => (if (bt153.1 == bt179.1 && (bt153.2.1 == bt179.2.1 && (bt153.2.2.1.toList == bt179.2.2.toList))) = true then (if bt153.2.2.2 = 0 then (if (bt164.1 == 0 && (bt164.2.1 == 0 && (bt164.2.2.1.toList == ([] : List UInt8)))) = true then (if bt164.2.2.2 = 0 then (if bt172.1 = 3 then (if bt172.2 = true then (some (!bt177.2)) else (some false)) else (some false)) else (some false)) else (some false)) else (some false)) else (some false))) else (some false)))))))))) = some r := H
  have A2 := Aside0.mk A20
  clear A20
  obtain ⟨y136, hy136⟩ : ∃ y_ : List (S25), y_ = (([(⟨t130, t131, t132⟩ : S25), (⟨t133, t134, t135⟩ : S25)] : List (S25))) := ⟨_, rfl⟩
  replace H : ((arith_Do.f k 10 y136).bind fun bt139 => ((hasplaw03_num.f (-7)).bind fun bt144 => ((hasplaw03_num.f 2).bind fun bt147 => ((arith_Do.f k 11 (([(⟨bt144.1, bt144.2.1, bt144.2.2⟩ : S25), (⟨bt147.1, bt147.2.1, bt147.2.2⟩ : S25)] : List (S25)))).bind fun bt153 => ((hasplaw03_num.f 0).bind fun bt158 => ((arith_Do.f k 10 (([(⟨0, 0, (⟨#[]⟩ : ByteArray)⟩ : S25), (⟨bt158.1, bt158.2.1, bt158.2.2⟩ : S25)] : List (S25)))).bind fun bt164 => ((arith_Type.f k 7 (([0, 3] : List Int))).bind fun bt172 => ((arith_Type.f k 7 (([0, 0] : List Int))).bind fun bt177 => (if bt139.2.2.2 = 31 then ((hasplaw03_num.f (-1)).bind fun bt179 => (if (bt153.1 == bt179.1 && (bt153.2.1 == bt179.2.1 && (bt153.2.2.1.toList == bt179.2.2.toList))) = true then (if bt153.2.2.2 = 0 then (if (bt164.1 == 0 && (bt164.2.1 == 0 && (bt164.2.2.1.toList == ([] : List UInt8)))) = true then (if bt164.2.2.2 = 0 then (if bt172.1 = 3 then (if bt172.2 = true then (some (!bt177.2)) else (some false)) else (some false)) else (some false)) else (some false)) else (some false)) else (some false))) else (some false)))))))))) = some r := by first | (rw [hy136]; with_reducible exact H) | (have H2_ := (Option.bind_some _ _).symm.trans H; rw [hy136]; with_reducible exact H2_) | (have H2_ := (Option.bind_some _ _).symm.trans H; with_reducible exact H2_) | with_reducible exact H | (rw [hy136]; exact H) | exact H
  have Ny136 := Aside0.mk hy136
  clear hy136
  replace H := Option.bind_eq_some_iff.mp H
  obtain ⟨⟨t139, t140, t141, t142⟩, A30, H⟩ := H
  replace H : ((hasplaw03_num.f (-7)).bind fun bt144 => ((hasplaw03_num.f 2).bind fun bt147 => ((arith_Do.f k 11 (([(⟨bt144.1, bt144.2.1, bt144.2.2⟩ : S25), (⟨bt147.1, bt147.2.1, bt147.2.2⟩ : S25)] : List (S25)))).bind fun bt153 => ((hasplaw03_num.f 0).bind fun bt158 => ((arith_Do.f k 10 (([(⟨0, 0, (⟨#[]⟩ : ByteArray)⟩ : S25), (⟨bt158.1, bt158.2.1, bt158.2.2⟩ : S25)] : List (S25)))).bind fun bt164 => ((arith_Type.f k 7 (([0, 3] : List Int))).bind fun bt172 => ((arith_Type.f k 7 (([0, 0] : List Int))).bind fun bt177 => (if t142 = 31 then ((hasplaw03_num.f (-1)).bind fun bt179 => (if (bt153.1 == bt179.1 && (bt153.2.1 == bt179.2.1 && (bt153.2.2.1.toList == bt179.2.2.toList))) = true then (if bt153.2.2.2 = 0 then (if (bt164.1 == 0 && (bt164.2.1 == 0 && (bt164.2.2.1.toList == ([] : List UInt8)))) = true then (if bt164.2.2.2 = 0 then (if bt172.1 = 3 then (if bt172.2 = true then (some (!bt177.2)) else (some false)) else (some false)) else (some false)) else (some false)) else (some false)) else (some false))) else (some false))))))))) = some r := H
  have A3 := Aside0.mk A30
  clear A30
  replace H := Option.bind_eq_some_iff.mp H
  obtain ⟨⟨t144, t145, t146⟩, A40, H⟩ := H
  replace H : ((hasplaw03_num.f 2).bind fun bt147 => ((arith_Do.f k 11 (([(⟨t144, t145, t146⟩ : S25), (⟨bt147.1, bt147.2.1, bt147.2.2⟩ : S25)] : List (S25)))).bind fun bt153 => ((hasplaw03_num.f 0).bind fun bt158 => ((arith_Do.f k 10 (([(⟨0, 0, (⟨#[]⟩ : ByteArray)⟩ : S25), (⟨bt158.1, bt158.2.1, bt158.2.2⟩ : S25)] : List (S25)))).bind fun bt164 => ((arith_Type.f k 7 (([0, 3] : List Int))).bind fun bt172 => ((arith_Type.f k 7 (([0, 0] : List Int))).bind fun bt177 => (if t142 = 31 then ((hasplaw03_num.f (-1)).bind fun bt179 => (if (bt153.1 == bt179.1 && (bt153.2.1 == bt179.2.1 && (bt153.2.2.1.toList == bt179.2.2.toList))) = true then (if bt153.2.2.2 = 0 then (if (bt164.1 == 0 && (bt164.2.1 == 0 && (bt164.2.2.1.toList == ([] : List UInt8)))) = true then (if bt164.2.2.2 = 0 then (if bt172.1 = 3 then (if bt172.2 = true then (some (!bt177.2)) else (some false)) else (some false)) else (some false)) else (some false)) else (some false)) else (some false))) else (some false)))))))) = some r := H
  have A4 := Aside0.mk A40
  clear A40
  replace H := Option.bind_eq_some_iff.mp H
  obtain ⟨⟨t147, t148, t149⟩, A50, H⟩ := H
  replace H : ((arith_Do.f k 11 (([(⟨t144, t145, t146⟩ : S25), (⟨t147, t148, t149⟩ : S25)] : List (S25)))).bind fun bt153 => ((hasplaw03_num.f 0).bind fun bt158 => ((arith_Do.f k 10 (([(⟨0, 0, (⟨#[]⟩ : ByteArray)⟩ : S25), (⟨bt158.1, bt158.2.1, bt158.2.2⟩ : S25)] : List (S25)))).bind fun bt164 => ((arith_Type.f k 7 (([0, 3] : List Int))).bind fun bt172 => ((arith_Type.f k 7 (([0, 0] : List Int))).bind fun bt177 => (if t142 = 31 then ((hasplaw03_num.f (-1)).bind fun bt179 => (if (bt153.1 == bt179.1 && (bt153.2.1 == bt179.2.1 && (bt153.2.2.1.toList == bt179.2.2.toList))) = true then (if bt153.2.2.2 = 0 then (if (bt164.1 == 0 && (bt164.2.1 == 0 && (bt164.2.2.1.toList == ([] : List UInt8)))) = true then (if bt164.2.2.2 = 0 then (if bt172.1 = 3 then (if bt172.2 = true then (some (!bt177.2)) else (some false)) else (some false)) else (some false)) else (some false)) else (some false)) else (some false))) else (some false))))))) = some r := H
  have A5 := Aside0.mk A50
  clear A50
  obtain ⟨y150, hy150⟩ : ∃ y_ : List (S25), y_ = (([(⟨t144, t145, t146⟩ : S25), (⟨t147, t148, t149⟩ : S25)] : List (S25))) := ⟨_, rfl⟩
  replace H : ((arith_Do.f k 11 y150).bind fun bt153 => ((hasplaw03_num.f 0).bind fun bt158 => ((arith_Do.f k 10 (([(⟨0, 0, (⟨#[]⟩ : ByteArray)⟩ : S25), (⟨bt158.1, bt158.2.1, bt158.2.2⟩ : S25)] : List (S25)))).bind fun bt164 => ((arith_Type.f k 7 (([0, 3] : List Int))).bind fun bt172 => ((arith_Type.f k 7 (([0, 0] : List Int))).bind fun bt177 => (if t142 = 31 then ((hasplaw03_num.f (-1)).bind fun bt179 => (if (bt153.1 == bt179.1 && (bt153.2.1 == bt179.2.1 && (bt153.2.2.1.toList == bt179.2.2.toList))) = true then (if bt153.2.2.2 = 0 then (if (bt164.1 == 0 && (bt164.2.1 == 0 && (bt164.2.2.1.toList == ([] : List UInt8)))) = true then (if bt164.2.2.2 = 0 then (if bt172.1 = 3 then (if bt172.2 = true then (some (!bt177.2)) else (some false)) else (some false)) else (some false)) else (some false)) else (some false)) else (some false))) else (some false))))))) = some r := by first | (rw [hy150]; with_reducible exact H) | (have H2_ := (Option.bind_some _ _).symm.trans H; rw [hy150]; with_reducible exact H2_) | (have H2_ := (Option.bind_some _ _).symm.trans H; with_reducible exact H2_) | with_reducible exact H | (rw [hy150]; exact H) | exact H
  have Ny150 := Aside0.mk hy150
  clear hy150
  replace H := Option.bind_eq_some_iff.mp H
  obtain ⟨⟨t153, t154, t155, t156⟩, A60, H⟩ := H
  replace H : ((hasplaw03_num.f 0).bind fun bt158 => ((arith_Do.f k 10 (([(⟨0, 0, (⟨#[]⟩ : ByteArray)⟩ : S25), (⟨bt158.1, bt158.2.1, bt158.2.2⟩ : S25)] : List (S25)))).bind fun bt164 => ((arith_Type.f k 7 (([0, 3] : List Int))).bind fun bt172 => ((arith_Type.f k 7 (([0, 0] : List Int))).bind fun bt177 => (if t142 = 31 then ((hasplaw03_num.f (-1)).bind fun bt179 => (if (t153 == bt179.1 && (t154 == bt179.2.1 && (t155.toList == bt179.2.2.toList))) = true then (if t156 = 0 then (if (bt164.1 == 0 && (bt164.2.1 == 0 && (bt164.2.2.1.toList == ([] : List UInt8)))) = true then (if bt164.2.2.2 = 0 then (if bt172.1 = 3 then (if bt172.2 = true then (some (!bt177.2)) else (some false)) else (some false)) else (some false)) else (some false)) else (some false)) else (some false))) else (some false)))))) = some r := H
  have A6 := Aside0.mk A60
  clear A60
  replace H := Option.bind_eq_some_iff.mp H
  obtain ⟨⟨t158, t159, t160⟩, A70, H⟩ := H
  replace H : ((arith_Do.f k 10 (([(⟨0, 0, (⟨#[]⟩ : ByteArray)⟩ : S25), (⟨t158, t159, t160⟩ : S25)] : List (S25)))).bind fun bt164 => ((arith_Type.f k 7 (([0, 3] : List Int))).bind fun bt172 => ((arith_Type.f k 7 (([0, 0] : List Int))).bind fun bt177 => (if t142 = 31 then ((hasplaw03_num.f (-1)).bind fun bt179 => (if (t153 == bt179.1 && (t154 == bt179.2.1 && (t155.toList == bt179.2.2.toList))) = true then (if t156 = 0 then (if (bt164.1 == 0 && (bt164.2.1 == 0 && (bt164.2.2.1.toList == ([] : List UInt8)))) = true then (if bt164.2.2.2 = 0 then (if bt172.1 = 3 then (if bt172.2 = true then (some (!bt177.2)) else (some false)) else (some false)) else (some false)) else (some false)) else (some false)) else (some false))) else (some false))))) = some r := H
  have A7 := Aside0.mk A70
  clear A70
  obtain ⟨y161, hy161⟩ : ∃ y_ : List (S25), y_ = (([(⟨0, 0, (⟨#[]⟩ : ByteArray)⟩ : S25), (⟨t158, t159, t160⟩ : S25)] : List (S25))) := ⟨_, rfl⟩
  replace H : ((arith_Do.f k 10 y161).bind fun bt164 => ((arith_Type.f k 7 (([0, 3] : List Int))).bind fun bt172 => ((arith_Type.f k 7 (([0, 0] : List Int))).bind fun bt177 => (if t142 = 31 then ((hasplaw03_num.f (-1)).bind fun bt179 => (if (t153 == bt179.1 && (t154 == bt179.2.1 && (t155.toList == bt179.2.2.toList))) = true then (if t156 = 0 then (if (bt164.1 == 0 && (bt164.2.1 == 0 && (bt164.2.2.1.toList == ([] : List UInt8)))) = true then (if bt164.2.2.2 = 0 then (if bt172.1 = 3 then (if bt172.2 = true then (some (!bt177.2)) else (some false)) else (some false)) else (some false)) else (some false)) else (some false)) else (some false))) else (some false))))) = some r := by first | (rw [hy161]; with_reducible exact H) | (have H2_ := (Option.bind_some _ _).symm.trans H; rw [hy161]; with_reducible exact H2_) | (have H2_ := (Option.bind_some _ _).symm.trans H; with_reducible exact H2_) | with_reducible exact H | (rw [hy161]; exact H) | exact H
  have Ny161 := Aside0.mk hy161
  clear hy161
  replace H := Option.bind_eq_some_iff.mp H
  obtain ⟨⟨t164, t165, t166, t167⟩, A80, H⟩ := H
  replace H : ((arith_Type.f k 7 (([0, 3] : List Int))).bind fun bt172 => ((arith_Type.f k 7 (([0, 0] : List Int))).bind fun bt177 => (if t142 = 31 then ((hasplaw03_num.f (-1)).bind fun bt179 => (if (t153 == bt179.1 && (t154 == bt179.2.1 && (t155.toList == bt179.2.2.toList))) = true then (if t156 = 0 then (if (t164 == 0 && (t165 == 0 && (t166.toList == ([] : List UInt8)))) = true then (if t167 = 0 then (if bt172.1 = 3 then (if bt172.2 = true then (some (!bt177.2)) else (some false)) else (some false)) else (some false)) else (some false)) else (some false)) else (some false))) else (some false)))) = some r := H
  have A8 := Aside0.mk A80
  clear A80
  obtain ⟨y169, hy169⟩ : ∃ y_ : List Int, y_ = (([0, 3] : List Int)) := ⟨_, rfl⟩
  replace H : ((arith_Type.f k 7 y169).bind fun bt172 => ((arith_Type.f k 7 (([0, 0] : List Int))).bind fun bt177 => (if t142 = 31 then ((hasplaw03_num.f (-1)).bind fun bt179 => (if (t153 == bt179.1 && (t154 == bt179.2.1 && (t155.toList == bt179.2.2.toList))) = true then (if t156 = 0 then (if (t164 == 0 && (t165 == 0 && (t166.toList == ([] : List UInt8)))) = true then (if t167 = 0 then (if bt172.1 = 3 then (if bt172.2 = true then (some (!bt177.2)) else (some false)) else (some false)) else (some false)) else (some false)) else (some false)) else (some false))) else (some false)))) = some r := by first | (rw [hy169]; with_reducible exact H) | (have H2_ := (Option.bind_some _ _).symm.trans H; rw [hy169]; with_reducible exact H2_) | (have H2_ := (Option.bind_some _ _).symm.trans H; with_reducible exact H2_) | with_reducible exact H | (rw [hy169]; exact H) | exact H
  have Ny169 := Aside0.mk hy169
  clear hy169
  replace H := Option.bind_eq_some_iff.mp H
  obtain ⟨⟨t172, t173⟩, A90, H⟩ := H
  replace H : ((arith_Type.f k 7 (([0, 0] : List Int))).bind fun bt177 => (if t142 = 31 then ((hasplaw03_num.f (-1)).bind fun bt179 => (if (t153 == bt179.1 && (t154 == bt179.2.1 && (t155.toList == bt179.2.2.toList))) = true then (if t156 = 0 then (if (t164 == 0 && (t165 == 0 && (t166.toList == ([] : List UInt8)))) = true then (if t167 = 0 then (if t172 = 3 then (if t173 = true then (some (!bt177.2)) else (some false)) else (some false)) else (some false)) else (some false)) else (some false)) else (some false))) else (some false))) = some r := H
  have A9 := Aside0.mk A90
  clear A90
  obtain ⟨y174, hy174⟩ : ∃ y_ : List Int, y_ = (([0, 0] : List Int)) := ⟨_, rfl⟩
  replace H : ((arith_Type.f k 7 y174).bind fun bt177 => (if t142 = 31 then ((hasplaw03_num.f (-1)).bind fun bt179 => (if (t153 == bt179.1 && (t154 == bt179.2.1 && (t155.toList == bt179.2.2.toList))) = true then (if t156 = 0 then (if (t164 == 0 && (t165 == 0 && (t166.toList == ([] : List UInt8)))) = true then (if t167 = 0 then (if t172 = 3 then (if t173 = true then (some (!bt177.2)) else (some false)) else (some false)) else (some false)) else (some false)) else (some false)) else (some false))) else (some false))) = some r := by first | (rw [hy174]; with_reducible exact H) | (have H2_ := (Option.bind_some _ _).symm.trans H; rw [hy174]; with_reducible exact H2_) | (have H2_ := (Option.bind_some _ _).symm.trans H; with_reducible exact H2_) | with_reducible exact H | (rw [hy174]; exact H) | exact H
  have Ny174 := Aside0.mk hy174
  clear hy174
  replace H := Option.bind_eq_some_iff.mp H
  obtain ⟨⟨t177, t178⟩, A100, H⟩ := H
  replace H : (if t142 = 31 then ((hasplaw03_num.f (-1)).bind fun bt179 => (if (t153 == bt179.1 && (t154 == bt179.2.1 && (t155.toList == bt179.2.2.toList))) = true then (if t156 = 0 then (if (t164 == 0 && (t165 == 0 && (t166.toList == ([] : List UInt8)))) = true then (if t167 = 0 then (if t172 = 3 then (if t173 = true then (some (!t178)) else (some false)) else (some false)) else (some false)) else (some false)) else (some false)) else (some false))) else (some false)) = some r := H
  have A10 := Aside0.mk A100
  clear A100
  by_cases c11 : t142 = 31
  · rw [if_pos c11] at H
    have c11b0 : (t142 == 31) = true := beq_iff_eq.mpr c11
    have c11b1 : (t142 != 31) = false := bne_eq_false_iff_eq.mpr c11
    clear c11
    replace H := Option.bind_eq_some_iff.mp H
    obtain ⟨⟨t179, t180, t181⟩, A120, H⟩ := H
    replace H : (if (t153 == t179 && (t154 == t180 && (t155.toList == t181.toList))) = true then (if t156 = 0 then (if (t164 == 0 && (t165 == 0 && (t166.toList == ([] : List UInt8)))) = true then (if t167 = 0 then (if t172 = 3 then (if t173 = true then (some (!t178)) else (some false)) else (some false)) else (some false)) else (some false)) else (some false)) else (some false)) = some r := H
    have A12 := Aside0.mk A120
    clear A120
    by_cases c13 : (t153 == t179 && (t154 == t180 && (t155.toList == t181.toList))) = true
    · rw [if_pos c13] at H
      have c13b0 : (t153 == t179 && (t154 == t180 && (t155.toList == t181.toList))) = true := c13
      (try (have c13b1 : decide (t153 = t179 && (t154 == t180 && (t155.toList == t181.toList))) = true := by simpa using c13))
      (try (have c13b2 : (t153 == t179 && (t154 == t180 && (t155.toList == t181.toList))) = true := by simpa using c13))
      clear c13
      by_cases c14 : t156 = 0
      · rw [if_pos c14] at H
        have c14b0 : (t156 == 0) = true := beq_iff_eq.mpr c14
        have c14b1 : (t156 != 0) = false := bne_eq_false_iff_eq.mpr c14
        clear c14
        by_cases c15 : (t164 == 0 && (t165 == 0 && (t166.toList == ([] : List UInt8)))) = true
        · rw [if_pos c15] at H
          have c15b0 : (t164 == 0 && (t165 == 0 && (t166.toList == ([] : List UInt8)))) = true := c15
          have c15b9 : (t164 == 0 && (t165 == 0 && t166.toList.isEmpty)) = true := by rw [show t166.toList.isEmpty = (t166.toList == ([] : List UInt8)) from by cases t166.toList <;> rfl]; exact c15b0
          (try (have c15b1 : decide (t164 = 0 && (t165 == 0 && (t166.toList == ([] : List UInt8)))) = true := by simpa using c15))
          (try (have c15b2 : (t164 == 0 && (t165 == 0 && (t166.toList == ([] : List UInt8)))) = true := by simpa using c15))
          clear c15
          by_cases c16 : t167 = 0
          · rw [if_pos c16] at H
            have c16b0 : (t167 == 0) = true := beq_iff_eq.mpr c16
            have c16b1 : (t167 != 0) = false := bne_eq_false_iff_eq.mpr c16
            clear c16
            by_cases c17 : t172 = 3
            · rw [if_pos c17] at H
              have c17b0 : (t172 == 3) = true := beq_iff_eq.mpr c17
              have c17b1 : (t172 != 3) = false := bne_eq_false_iff_eq.mpr c17
              clear c17
              by_cases c18 : t173 = true
              · subst c18
                have H1 : (some (!t178)) = some r := by rw [if_pos rfl] at H; exact H
                clear H
                have H := H1
                clear H1
                obtain rfl := Option.some.inj H
                clear hr
                go_enter Try.func9, Try.ntmps9
                try go_wp2_with (first | ((with_reducible refine gate_callee (f := 17) rfl ?_); refine goesL_ (some 12) rfl rfl Try.func17 (by kernel_rfl) rfl #[.int .i64 (-9223372036854775808)] rfl (by (try simp only [List.map_toArray, List.map_cons, List.map_nil]); first | done | rfl | (simp only [List.length_drop, List.length_take]; rfl)) ?_; (with_reducible refine (hasplaw03_num.calls (-9223372036854775808) t130 t131 t132 _ A1.out).mono ?_); rintro e w19 ⟨rfl, hb⟩; refine ⟨_, rfl, ?_⟩; have n0_ := Aside0.mk (below_step (by repeat (first | (with_reducible first | exact HB.out | apply below_alloc | apply pw_below_drewN | apply below_drew1) | exact HB.out)) hb); clear HB; have HB := n0_; clear n0_; (try clear hb); (try clear hb2); (try clear hk); (try clear hi)) | ((with_reducible refine gate_callee (f := 17) rfl ?_); refine goesL_ (some 13) rfl rfl Try.func17 (by kernel_rfl) rfl #[.int .i64 (-1)] rfl (by (try simp only [List.map_toArray, List.map_cons, List.map_nil]); first | done | rfl | (simp only [List.length_drop, List.length_take]; rfl)) ?_; (with_reducible refine (hasplaw03_num.calls (-1) t133 t134 t135 _ A2.out).mono ?_); rintro e w20 ⟨rfl, hb⟩; refine ⟨_, rfl, ?_⟩; have n0_ := Aside0.mk (below_step (by repeat (first | (with_reducible first | exact HB.out | apply below_alloc | apply pw_below_drewN | apply below_drew1) | exact HB.out)) hb); clear HB; have HB := n0_; clear n0_; (try clear hb); (try clear hb2); (try clear hk); (try clear hi)) | ((with_reducible refine gate_dst (N := 14) rfl ?_); refine Kd.R_lit k25 _ 25 ?hg (N := 14) ?hd (xs := ([(⟨t130, t131, t132⟩ : S25), (⟨t133, t134, t135⟩ : S25)] : List (S25))) (inner := [.int .i64 t130, .int .i64 t131, .string t132, .int .i64 t133, .int .i64 t134, .string t135]) (ok := fun _ => True) (okp := fun _ => True) ?hr ?hp (fun _ hk => hk) trivial (Below.refl _ _) (Nat.le_refl _) (by simp) ?_; (case hd => rfl); (case hg => rfl); (case hr => first | (go_simp; done) | (go_simp; rfl)); (case hp => exact (Reps.c3 (show Kd.M k25 _ _ _ (⟨t130, t131, t132⟩ : S25) [.int .i64 t130, .int .i64 t131, .string t132] from (k25_mkM _ _ _ (⟨t130, t131, t132⟩ : S25) )) (Reps.c3 (show Kd.M k25 _ _ _ (⟨t133, t134, t135⟩ : S25) [.int .i64 t133, .int .i64 t134, .string t135] from (k25_mkM _ _ _ (⟨t133, t134, t135⟩ : S25) )) (Reps.none _ _)))); intro v137 w21 ho22 hb hg_ hnew_; clear hg_ hnew_; (first | rw [← Ny136.out] at ho22 | (simp only [Int.reduceToNat] at ho22; rw [← Ny136.out] at ho22)); have n0_ := Aside0.mk (Kd.R_lower ho22 (below_size (by repeat (first | (with_reducible first | exact HB.out | apply below_alloc | apply pw_below_drewN | apply below_drew1) | exact HB.out)))); have n1_ := Aside0.mk (below_step (by repeat (first | (with_reducible first | exact HB.out | apply below_alloc | apply pw_below_drewN | apply below_drew1) | exact HB.out)) hb); clear HB; have HO138 := n0_; have HB := n1_; clear n0_ n1_; clear hb ho22; obtain ⟨Ao23, co23, eo23⟩ := Kd.R_slice HO138.out; subst eo23) | ((with_reducible refine gate_callee (f := 12) rfl ?_); refine goesL_ (some 15) rfl rfl Try.func12 (by kernel_rfl) rfl #[.int .i64 10, .slice Ao23 y136.length co23] rfl (by (try simp only [List.map_toArray, List.map_cons, List.map_nil]); first | done | rfl | (simp only [List.length_drop, List.length_take]; rfl)) ?_; (with_reducible refine (arith_Do.calls k 10 _ _ y136 t139 t140 t141 t142 _ ?side1 ?side2 A3.out).mono ?_); (case side1 => repeat (first | exact (Kd.R_reads' HO138.out).2.2 | (with_reducible refine Kd.C_alloc ?_ _) | (with_reducible refine Kd.C_drewN ?_ _) | (with_reducible refine Kd.C_drew ?_))); (case side2 => exact (Kd.R_reads' HO138.out).2.1); rintro e w24 ⟨rfl, hb⟩; refine ⟨_, rfl, ?_⟩; have n0_ := Aside0.mk (Kd.R_below (by (with_reducible repeat (first | apply Kd.R_alloc | apply Kd.R_drewN | apply Kd.R_drew)); exact HO138.out) hb); have n1_ := Aside0.mk (below_step (by repeat (first | (with_reducible first | exact HB.out | apply below_alloc | apply pw_below_drewN | apply below_drew1) | exact HB.out)) hb); clear HO138; clear HB; have HO138 := n0_; have HB := n1_; clear n0_ n1_; (try clear hb); (try clear hb2); (try clear hk); (try clear hi)) | ((with_reducible refine gate_dst (N := 1) rfl ?_); refine box_event ?hg (N := 1) ?hd (cs := #[.int .i64 0, .int .i64 0, .string (⟨#[]⟩ : ByteArray)]) (t := 25) ?hr ?_; (case hd => rfl); (case hg => rfl); (case hr => first | (go_simp; done) | (go_simp; rfl)); intro gb143 hg w25 hbox hb; have n0_ := Aside0.mk (Kd.R_below (Kd.R_elderB (by (with_reducible repeat (first | apply Kd.R_alloc | apply Kd.R_drewN | apply Kd.R_drew)); exact HO138.out) gb143 (Nat.le_of_eq hg.symm)) hb); have n1_ := Aside0.mk (below_step (by repeat (first | (with_reducible first | exact HB.out | apply below_alloc | apply pw_below_drewN | apply below_drew1) | exact HB.out)) hb); have n2_ := Aside0.mk (hbox); have n3_ := Aside0.mk ((by rw [hg]; exact (below_size (by repeat (first | (with_reducible first | exact HB.out | apply below_alloc | apply pw_below_drewN | apply below_drew1) | exact HB.out))) : w.heap.size ≤ gb143)); have n4_ := Aside0.mk ((by rw [hg]; exact (below_size (by repeat (first | (with_reducible first | exact HB.out | apply below_alloc | apply pw_below_drewN | apply below_drew1) | exact HB.out))) : w.heap.size ≤ gb143)); clear HO138; clear HB; have HO138 := n0_; have HB := n1_; have BK143 := n2_; have GW143 := n3_; have GE143 := n4_; clear n0_ n1_ n2_ n3_ n4_; clear hb hbox hg; have hcz26_0 : w25.cell? ⟨gb143, 0, none⟩ = some (.int .i64 0) := (blk_cell BK143.out 0).trans rfl; have hcz26_1 : w25.cell? ⟨gb143, 1, none⟩ = some (.int .i64 0) := (blk_cell BK143.out 1).trans rfl; have hcz26_2 : w25.cell? ⟨gb143, 2, none⟩ = some (.string (⟨#[]⟩ : ByteArray)) := (blk_cell BK143.out 2).trans rfl; have hfz26_0 := blk_frozen BK143.out 0; have hfz26_1 := blk_frozen BK143.out 1; have hfz26_2 := blk_frozen BK143.out 2) | ((with_reducible refine gate_callee (f := 17) rfl ?_); refine goesL_ (some 19) rfl rfl Try.func17 (by kernel_rfl) rfl #[.int .i64 (-7)] rfl (by (try simp only [List.map_toArray, List.map_cons, List.map_nil]); first | done | rfl | (simp only [List.length_drop, List.length_take]; rfl)) ?_; (with_reducible refine (hasplaw03_num.calls (-7) t144 t145 t146 _ A4.out).mono ?_); rintro e w27 ⟨rfl, hb⟩; refine ⟨_, rfl, ?_⟩; have n0_ := Aside0.mk (Kd.R_below (by (with_reducible repeat (first | apply Kd.R_alloc | apply Kd.R_drewN | apply Kd.R_drew)); exact (Kd.R_mono (Kd.R_far (p := ⟨gb143, 2, none⟩) (Kd.R_far (p := ⟨gb143, 1, none⟩) (Kd.R_far (p := ⟨gb143, 0, none⟩) (Kd.R_mono HO138.out (fun k_ hk => (⟨hk, hk.2⟩ : _ ∧ k_ ≠ gb143))) (fun _ hk => hk.2) (.int .i64 t139)) (fun _ hk => hk.2) (.int .i64 t140)) (fun _ hk => hk.2) (.string t141)) (fun _ h_ => h_.1))) hb); have n1_ := Aside0.mk (blk_below (g := gb143) (o := .cells #[.int .i64 t139, .int .i64 t140, .string t141] 25 (0, 0)) (by (with_reducible repeat (first | refine blk_drewN ?_ _ | refine blk_drew ?_ | refine blk_alloc ?_ _)); refine blk_put (cs := #[.int .i64 t139, .int .i64 t140, .string (⟨#[]⟩ : ByteArray)]) ?_ 2 _ rfl; (with_reducible repeat (first | refine blk_drewN ?_ _ | refine blk_drew ?_ | refine blk_alloc ?_ _)); refine blk_put (cs := #[.int .i64 t139, .int .i64 0, .string (⟨#[]⟩ : ByteArray)]) ?_ 1 _ rfl; (with_reducible repeat (first | refine blk_drewN ?_ _ | refine blk_drew ?_ | refine blk_alloc ?_ _)); refine blk_put (cs := #[.int .i64 0, .int .i64 0, .string (⟨#[]⟩ : ByteArray)]) ?_ 0 _ rfl; (with_reducible repeat (first | refine blk_drewN ?_ _ | refine blk_drew ?_ | refine blk_alloc ?_ _)); exact BK143.out) hb); have n2_ := Aside0.mk (below_step (by repeat (first | (with_reducible first | exact HB.out | apply below_alloc | apply pw_below_drewN | apply below_drew1 | refine below_set ?_ GE143.out) | exact HB.out)) hb); clear HO138; clear BK143; clear HB; have HO138 := n0_; have BK143 := n1_; have HB := n2_; clear n0_ n1_ n2_; (try clear hb); (try clear hb2); (try clear hk); (try clear hi)) | ((with_reducible refine gate_callee (f := 17) rfl ?_); refine goesL_ (some 20) rfl rfl Try.func17 (by kernel_rfl) rfl #[.int .i64 2] rfl (by (try simp only [List.map_toArray, List.map_cons, List.map_nil]); first | done | rfl | (simp only [List.length_drop, List.length_take]; rfl)) ?_; (with_reducible refine (hasplaw03_num.calls 2 t147 t148 t149 _ A5.out).mono ?_); rintro e w28 ⟨rfl, hb⟩; refine ⟨_, rfl, ?_⟩; have n0_ := Aside0.mk (Kd.R_below (by (with_reducible repeat (first | apply Kd.R_alloc | apply Kd.R_drewN | apply Kd.R_drew)); exact HO138.out) hb); have n1_ := Aside0.mk (blk_below (g := gb143) (o := .cells #[.int .i64 t139, .int .i64 t140, .string t141] 25 (0, 0)) (by (with_reducible repeat (first | refine blk_drewN ?_ _ | refine blk_drew ?_ | refine blk_alloc ?_ _)); exact BK143.out) hb); have n2_ := Aside0.mk (below_step (by repeat (first | (with_reducible first | exact HB.out | apply below_alloc | apply pw_below_drewN | apply below_drew1 | refine below_set ?_ GE143.out) | exact HB.out)) hb); clear HO138; clear BK143; clear HB; have HO138 := n0_; have BK143 := n1_; have HB := n2_; clear n0_ n1_ n2_; (try clear hb); (try clear hb2); (try clear hk); (try clear hi)) | ((with_reducible refine gate_dst (N := 21) rfl ?_); refine Kd.R_lit k25 _ 25 ?hg (N := 21) ?hd (xs := ([(⟨t144, t145, t146⟩ : S25), (⟨t147, t148, t149⟩ : S25)] : List (S25))) (inner := [.int .i64 t144, .int .i64 t145, .string t146, .int .i64 t147, .int .i64 t148, .string t149]) (ok := fun _ => True) (okp := fun _ => True) ?hr ?hp (fun _ hk => hk) trivial (Below.refl _ _) (Nat.le_refl _) (by simp) ?_; (case hd => rfl); (case hg => rfl); (case hr => first | (go_simp; done) | (go_simp; rfl)); (case hp => exact (Reps.c3 (show Kd.M k25 _ _ _ (⟨t144, t145, t146⟩ : S25) [.int .i64 t144, .int .i64 t145, .string t146] from (k25_mkM _ _ _ (⟨t144, t145, t146⟩ : S25) )) (Reps.c3 (show Kd.M k25 _ _ _ (⟨t147, t148, t149⟩ : S25) [.int .i64 t147, .int .i64 t148, .string t149] from (k25_mkM _ _ _ (⟨t147, t148, t149⟩ : S25) )) (Reps.none _ _)))); intro v151 w29 ho30 hb hg_ hnew_; clear hg_ hnew_; (first | rw [← Ny150.out] at ho30 | (simp only [Int.reduceToNat] at ho30; rw [← Ny150.out] at ho30)); have n0_ := Aside0.mk (Kd.R_elder' (by (with_reducible repeat (first | apply Kd.R_alloc | apply Kd.R_drewN | apply Kd.R_drew)); exact HO138.out) (Kd.R_base ho30) hb); have n1_ := Aside0.mk (Kd.R_lower (Kd.R_newB (Kd.R_new' ho30 (Kd.R_lt (by (with_reducible repeat (first | apply Kd.R_alloc | apply Kd.R_drewN | apply Kd.R_drew)); exact HO138.out))) (g := gb143) (o := .cells #[.int .i64 t139, .int .i64 t140, .string t141] 25 (0, 0)) (by (with_reducible repeat (first | refine blk_drewN ?_ _ | refine blk_drew ?_ | refine blk_alloc ?_ _)); exact BK143.out)) (below_size (by repeat (first | (with_reducible first | exact HB.out | apply below_alloc | apply pw_below_drewN | apply below_drew1 | refine below_set ?_ GE143.out) | exact HB.out)))); have n2_ := Aside0.mk (blk_below (g := gb143) (o := .cells #[.int .i64 t139, .int .i64 t140, .string t141] 25 (0, 0)) (by (with_reducible repeat (first | refine blk_drewN ?_ _ | refine blk_drew ?_ | refine blk_alloc ?_ _)); exact BK143.out) hb); have n3_ := Aside0.mk (below_step (by repeat (first | (with_reducible first | exact HB.out | apply below_alloc | apply pw_below_drewN | apply below_drew1 | refine below_set ?_ GE143.out) | exact HB.out)) hb); clear HO138; clear BK143; clear HB; have HO138 := n0_; have HO152 := n1_; have BK143 := n2_; have HB := n3_; clear n0_ n1_ n2_ n3_; clear hb ho30; obtain ⟨Ao31, co31, eo31⟩ := Kd.R_slice HO152.out; subst eo31) | ((with_reducible refine gate_callee (f := 12) rfl ?_); refine goesL_ (some 22) rfl rfl Try.func12 (by kernel_rfl) rfl #[.int .i64 11, .slice Ao31 y150.length co31] rfl (by (try simp only [List.map_toArray, List.map_cons, List.map_nil]); first | done | rfl | (simp only [List.length_drop, List.length_take]; rfl)) ?_; (with_reducible refine (arith_Do.calls k 11 _ _ y150 t153 t154 t155 t156 _ ?side1 ?side2 A6.out).mono ?_); (case side1 => repeat (first | exact (Kd.R_reads' HO152.out).2.2 | (with_reducible refine Kd.C_alloc ?_ _) | (with_reducible refine Kd.C_drewN ?_ _) | (with_reducible refine Kd.C_drew ?_))); (case side2 => exact (Kd.R_reads' HO152.out).2.1); rintro e w32 ⟨rfl, hb⟩; refine ⟨_, rfl, ?_⟩; have n0_ := Aside0.mk (Kd.R_below (by (with_reducible repeat (first | apply Kd.R_alloc | apply Kd.R_drewN | apply Kd.R_drew)); exact HO138.out) hb); have n1_ := Aside0.mk (Kd.R_below (by (with_reducible repeat (first | apply Kd.R_alloc | apply Kd.R_drewN | apply Kd.R_drew)); exact HO152.out) hb); have n2_ := Aside0.mk (blk_below (g := gb143) (o := .cells #[.int .i64 t139, .int .i64 t140, .string t141] 25 (0, 0)) (by (with_reducible repeat (first | refine blk_drewN ?_ _ | refine blk_drew ?_ | refine blk_alloc ?_ _)); exact BK143.out) hb); have n3_ := Aside0.mk (below_step (by repeat (first | (with_reducible first | exact HB.out | apply below_alloc | apply pw_below_drewN | apply below_drew1 | refine below_set ?_ GE143.out) | exact HB.out)) hb); clear HO138; clear HO152; clear BK143; clear HB; have HO138 := n0_; have HO152 := n1_; have BK143 := n2_; have HB := n3_; clear n0_ n1_ n2_ n3_; (try clear hb); (try clear hb2); (try clear hk); (try clear hi)) | ((with_reducible refine gate_dst (N := 3) rfl ?_); refine box_event ?hg (N := 3) ?hd (cs := #[.int .i64 0, .int .i64 0, .string (⟨#[]⟩ : ByteArray)]) (t := 25) ?hr ?_; (case hd => rfl); (case hg => rfl); (case hr => first | (go_simp; done) | (go_simp; rfl)); intro gb157 hg w33 hbox hb; have n0_ := Aside0.mk (Kd.R_below (Kd.R_elderB (by (with_reducible repeat (first | apply Kd.R_alloc | apply Kd.R_drewN | apply Kd.R_drew)); exact HO138.out) gb157 (Nat.le_of_eq hg.symm)) hb); have n1_ := Aside0.mk (Kd.R_below (Kd.R_elderB (by (with_reducible repeat (first | apply Kd.R_alloc | apply Kd.R_drewN | apply Kd.R_drew)); exact HO152.out) gb157 (Nat.le_of_eq hg.symm)) hb); have n2_ := Aside0.mk (blk_below (g := gb143) (o := .cells #[.int .i64 t139, .int .i64 t140, .string t141] 25 (0, 0)) (by (with_reducible repeat (first | refine blk_drewN ?_ _ | refine blk_drew ?_ | refine blk_alloc ?_ _)); exact BK143.out) hb); have n3_ := Aside0.mk (below_step (by repeat (first | (with_reducible first | exact HB.out | apply below_alloc | apply pw_below_drewN | apply below_drew1 | refine below_set ?_ GE143.out) | exact HB.out)) hb); have n4_ := Aside0.mk (hbox); have n5_ := Aside0.mk ((by rw [hg]; exact (below_size (by repeat (first | (with_reducible first | exact HB.out | apply below_alloc | apply pw_below_drewN | apply below_drew1 | refine below_set ?_ GE143.out) | exact HB.out))) : w.heap.size ≤ gb157)); have n6_ := Aside0.mk ((by rw [hg]; exact (below_size (by repeat (first | (with_reducible first | exact HB.out | apply below_alloc | apply pw_below_drewN | apply below_drew1 | refine below_set ?_ GE143.out) | exact HB.out))) : w.heap.size ≤ gb157)); have n7_ := Aside0.mk ((by rw [hg]; exact Nat.ne_of_lt (blk_lt (g := gb143) (o := .cells #[.int .i64 t139, .int .i64 t140, .string t141] 25 (0, 0)) (by (with_reducible repeat (first | refine blk_drewN ?_ _ | refine blk_drew ?_ | refine blk_alloc ?_ _)); exact BK143.out)) : gb143 ≠ gb157)); have n8_ := Aside0.mk ((by rw [hg]; exact Nat.ne_of_gt (blk_lt (g := gb143) (o := .cells #[.int .i64 t139, .int .i64 t140, .string t141] 25 (0, 0)) (by (with_reducible repeat (first | refine blk_drewN ?_ _ | refine blk_drew ?_ | refine blk_alloc ?_ _)); exact BK143.out)) : gb157 ≠ gb143)); clear HO138; clear HO152; clear BK143; clear HB; have HO138 := n0_; have HO152 := n1_; have BK143 := n2_; have HB := n3_; have BK157 := n4_; have GW157 := n5_; have GE157 := n6_; have NB143_157 := n7_; have NB157_143 := n8_; clear n0_ n1_ n2_ n3_ n4_ n5_ n6_ n7_ n8_; clear hb hbox hg; have hnb34 := NB157_143.out; have hnc34 := NB143_157.out; have hcz35_0 : w33.cell? ⟨gb157, 0, none⟩ = some (.int .i64 0) := (blk_cell BK157.out 0).trans rfl; have hcz35_1 : w33.cell? ⟨gb157, 1, none⟩ = some (.int .i64 0) := (blk_cell BK157.out 1).trans rfl; have hcz35_2 : w33.cell? ⟨gb157, 2, none⟩ = some (.string (⟨#[]⟩ : ByteArray)) := (blk_cell BK157.out 2).trans rfl; have hfz35_0 := blk_frozen BK157.out 0; have hfz35_1 := blk_frozen BK157.out 1; have hfz35_2 := blk_frozen BK157.out 2) | ((with_reducible refine gate_callee (f := 17) rfl ?_); refine goesL_ (some 27) rfl rfl Try.func17 (by kernel_rfl) rfl #[.int .i64 0] rfl (by (try simp only [List.map_toArray, List.map_cons, List.map_nil]); first | done | rfl | (simp only [List.length_drop, List.length_take]; rfl)) ?_; (with_reducible refine (hasplaw03_num.calls 0 t158 t159 t160 _ A7.out).mono ?_); rintro e w36 ⟨rfl, hb⟩; refine ⟨_, rfl, ?_⟩; have n0_ := Aside0.mk (Kd.R_below (by (with_reducible repeat (first | apply Kd.R_alloc | apply Kd.R_drewN | apply Kd.R_drew)); exact (Kd.R_mono (Kd.R_far (p := ⟨gb157, 2, none⟩) (Kd.R_far (p := ⟨gb157, 1, none⟩) (Kd.R_far (p := ⟨gb157, 0, none⟩) (Kd.R_mono HO138.out (fun k_ hk => (⟨hk, hk.2⟩ : _ ∧ k_ ≠ gb157))) (fun _ hk => hk.2) (.int .i64 t153)) (fun _ hk => hk.2) (.int .i64 t154)) (fun _ hk => hk.2) (.string t155)) (fun _ h_ => h_.1))) hb); have n1_ := Aside0.mk (Kd.R_below (by (with_reducible repeat (first | apply Kd.R_alloc | apply Kd.R_drewN | apply Kd.R_drew)); exact (Kd.R_mono (Kd.R_far (p := ⟨gb157, 2, none⟩) (Kd.R_far (p := ⟨gb157, 1, none⟩) (Kd.R_far (p := ⟨gb157, 0, none⟩) (Kd.R_mono HO152.out (fun k_ hk => (⟨hk, hk.2⟩ : _ ∧ k_ ≠ gb157))) (fun _ hk => hk.2) (.int .i64 t153)) (fun _ hk => hk.2) (.int .i64 t154)) (fun _ hk => hk.2) (.string t155)) (fun _ h_ => h_.1))) hb); have n2_ := Aside0.mk (blk_below (g := gb143) (o := .cells #[.int .i64 t139, .int .i64 t140, .string t141] 25 (0, 0)) (by (with_reducible repeat (first | refine blk_drewN ?_ _ | refine blk_drew ?_ | refine blk_alloc ?_ _)); refine blk_far ?_ NB143_157.out _; (with_reducible repeat (first | refine blk_drewN ?_ _ | refine blk_drew ?_ | refine blk_alloc ?_ _)); refine blk_far ?_ NB143_157.out _; (with_reducible repeat (first | refine blk_drewN ?_ _ | refine blk_drew ?_ | refine blk_alloc ?_ _)); refine blk_far ?_ NB143_157.out _; (with_reducible repeat (first | refine blk_drewN ?_ _ | refine blk_drew ?_ | refine blk_alloc ?_ _)); exact BK143.out) hb); have n3_ := Aside0.mk (blk_below (g := gb157) (o := .cells #[.int .i64 t153, .int .i64 t154, .string t155] 25 (0, 0)) (by (with_reducible repeat (first | refine blk_drewN ?_ _ | refine blk_drew ?_ | refine blk_alloc ?_ _)); refine blk_put (cs := #[.int .i64 t153, .int .i64 t154, .string (⟨#[]⟩ : ByteArray)]) ?_ 2 _ rfl; (with_reducible repeat (first | refine blk_drewN ?_ _ | refine blk_drew ?_ | refine blk_alloc ?_ _)); refine blk_put (cs := #[.int .i64 t153, .int .i64 0, .string (⟨#[]⟩ : ByteArray)]) ?_ 1 _ rfl; (with_reducible repeat (first | refine blk_drewN ?_ _ | refine blk_drew ?_ | refine blk_alloc ?_ _)); refine blk_put (cs := #[.int .i64 0, .int .i64 0, .string (⟨#[]⟩ : ByteArray)]) ?_ 0 _ rfl; (with_reducible repeat (first | refine blk_drewN ?_ _ | refine blk_drew ?_ | refine blk_alloc ?_ _)); exact BK157.out) hb); have n4_ := Aside0.mk (below_step (by repeat (first | (with_reducible first | exact HB.out | apply below_alloc | apply pw_below_drewN | apply below_drew1 | refine below_set ?_ GE143.out | refine below_set ?_ GE157.out) | exact HB.out)) hb); clear HO138; clear HO152; clear BK143; clear BK157; clear HB; have HO138 := n0_; have HO152 := n1_; have BK143 := n2_; have BK157 := n3_; have HB := n4_; clear n0_ n1_ n2_ n3_ n4_; (try clear hb); (try clear hb2); (try clear hk); (try clear hi)) | ((with_reducible refine gate_dst (N := 28) rfl ?_); refine Kd.R_lit k25 _ 25 ?hg (N := 28) ?hd (xs := ([(⟨0, 0, (⟨#[]⟩ : ByteArray)⟩ : S25), (⟨t158, t159, t160⟩ : S25)] : List (S25))) (inner := [.int .i64 0, .int .i64 0, .string (⟨#[]⟩ : ByteArray), .int .i64 t158, .int .i64 t159, .string t160]) (ok := fun _ => True) (okp := fun _ => True) ?hr ?hp (fun _ hk => hk) trivial (Below.refl _ _) (Nat.le_refl _) (by simp) ?_; (case hd => rfl); (case hg => rfl); (case hr => first | (go_simp; done) | (go_simp; rfl)); (case hp => exact (Reps.c3 (show Kd.M k25 _ _ _ (⟨0, 0, (⟨#[]⟩ : ByteArray)⟩ : S25) [.int .i64 0, .int .i64 0, .string (⟨#[]⟩ : ByteArray)] from (k25_mkM _ _ _ (⟨0, 0, (⟨#[]⟩ : ByteArray)⟩ : S25) )) (Reps.c3 (show Kd.M k25 _ _ _ (⟨t158, t159, t160⟩ : S25) [.int .i64 t158, .int .i64 t159, .string t160] from (k25_mkM _ _ _ (⟨t158, t159, t160⟩ : S25) )) (Reps.none _ _)))); intro v162 w37 ho38 hb hg_ hnew_; clear hg_ hnew_; (first | rw [← Ny161.out] at ho38 | (simp only [Int.reduceToNat] at ho38; rw [← Ny161.out] at ho38)); have n0_ := Aside0.mk (Kd.R_elder' (by (with_reducible repeat (first | apply Kd.R_alloc | apply Kd.R_drewN | apply Kd.R_drew)); exact HO138.out) (Kd.R_base ho38) hb); have n1_ := Aside0.mk (Kd.R_elder' (by (with_reducible repeat (first | apply Kd.R_alloc | apply Kd.R_drewN | apply Kd.R_drew)); exact HO152.out) (Kd.R_base ho38) hb); have n2_ := Aside0.mk (Kd.R_lower (Kd.R_newB (Kd.R_newB (Kd.R_new' (Kd.R_new' ho38 (Kd.R_lt (by (with_reducible repeat (first | apply Kd.R_alloc | apply Kd.R_drewN | apply Kd.R_drew)); exact HO138.out))) (Kd.R_lt (by (with_reducible repeat (first | apply Kd.R_alloc | apply Kd.R_drewN | apply Kd.R_drew)); exact HO152.out))) (g := gb143) (o := .cells #[.int .i64 t139, .int .i64 t140, .string t141] 25 (0, 0)) (by (with_reducible repeat (first | refine blk_drewN ?_ _ | refine blk_drew ?_ | refine blk_alloc ?_ _)); exact BK143.out)) (g := gb157) (o := .cells #[.int .i64 t153, .int .i64 t154, .string t155] 25 (0, 0)) (by (with_reducible repeat (first | refine blk_drewN ?_ _ | refine blk_drew ?_ | refine blk_alloc ?_ _)); exact BK157.out)) (below_size (by repeat (first | (with_reducible first | exact HB.out | apply below_alloc | apply pw_below_drewN | apply below_drew1 | refine below_set ?_ GE143.out | refine below_set ?_ GE157.out) | exact HB.out)))); have n3_ := Aside0.mk (blk_below (g := gb143) (o := .cells #[.int .i64 t139, .int .i64 t140, .string t141] 25 (0, 0)) (by (with_reducible repeat (first | refine blk_drewN ?_ _ | refine blk_drew ?_ | refine blk_alloc ?_ _)); exact BK143.out) hb); have n4_ := Aside0.mk (blk_below (g := gb157) (o := .cells #[.int .i64 t153, .int .i64 t154, .string t155] 25 (0, 0)) (by (with_reducible repeat (first | refine blk_drewN ?_ _ | refine blk_drew ?_ | refine blk_alloc ?_ _)); exact BK157.out) hb); have n5_ := Aside0.mk (below_step (by repeat (first | (with_reducible first | exact HB.out | apply below_alloc | apply pw_below_drewN | apply below_drew1 | refine below_set ?_ GE143.out | refine below_set ?_ GE157.out) | exact HB.out)) hb); clear HO138; clear HO152; clear BK143; clear BK157; clear HB; have HO138 := n0_; have HO152 := n1_; have HO163 := n2_; have BK143 := n3_; have BK157 := n4_; have HB := n5_; clear n0_ n1_ n2_ n3_ n4_ n5_; clear hb ho38; obtain ⟨Ao39, co39, eo39⟩ := Kd.R_slice HO163.out; subst eo39) | ((with_reducible refine gate_callee (f := 12) rfl ?_); refine goesL_ (some 29) rfl rfl Try.func12 (by kernel_rfl) rfl #[.int .i64 10, .slice Ao39 y161.length co39] rfl (by (try simp only [List.map_toArray, List.map_cons, List.map_nil]); first | done | rfl | (simp only [List.length_drop, List.length_take]; rfl)) ?_; (with_reducible refine (arith_Do.calls k 10 _ _ y161 t164 t165 t166 t167 _ ?side1 ?side2 A8.out).mono ?_); (case side1 => repeat (first | exact (Kd.R_reads' HO163.out).2.2 | (with_reducible refine Kd.C_alloc ?_ _) | (with_reducible refine Kd.C_drewN ?_ _) | (with_reducible refine Kd.C_drew ?_))); (case side2 => exact (Kd.R_reads' HO163.out).2.1); rintro e w40 ⟨rfl, hb⟩; refine ⟨_, rfl, ?_⟩; have n0_ := Aside0.mk (Kd.R_below (by (with_reducible repeat (first | apply Kd.R_alloc | apply Kd.R_drewN | apply Kd.R_drew)); exact HO138.out) hb); have n1_ := Aside0.mk (Kd.R_below (by (with_reducible repeat (first | apply Kd.R_alloc | apply Kd.R_drewN | apply Kd.R_drew)); exact HO152.out) hb); have n2_ := Aside0.mk (Kd.R_below (by (with_reducible repeat (first | apply Kd.R_alloc | apply Kd.R_drewN | apply Kd.R_drew)); exact HO163.out) hb); have n3_ := Aside0.mk (blk_below (g := gb143) (o := .cells #[.int .i64 t139, .int .i64 t140, .string t141] 25 (0, 0)) (by (with_reducible repeat (first | refine blk_drewN ?_ _ | refine blk_drew ?_ | refine blk_alloc ?_ _)); exact BK143.out) hb); have n4_ := Aside0.mk (blk_below (g := gb157) (o := .cells #[.int .i64 t153, .int .i64 t154, .string t155] 25 (0, 0)) (by (with_reducible repeat (first | refine blk_drewN ?_ _ | refine blk_drew ?_ | refine blk_alloc ?_ _)); exact BK157.out) hb); have n5_ := Aside0.mk (below_step (by repeat (first | (with_reducible first | exact HB.out | apply below_alloc | apply pw_below_drewN | apply below_drew1 | refine below_set ?_ GE143.out | refine below_set ?_ GE157.out) | exact HB.out)) hb); clear HO138; clear HO152; clear HO163; clear BK143; clear BK157; clear HB; have HO138 := n0_; have HO152 := n1_; have HO163 := n2_; have BK143 := n3_; have BK157 := n4_; have HB := n5_; clear n0_ n1_ n2_ n3_ n4_ n5_; (try clear hb); (try clear hb2); (try clear hk); (try clear hi)) | ((with_reducible refine gate_dst (N := 5) rfl ?_); refine box_event ?hg (N := 5) ?hd (cs := #[.int .i64 0, .int .i64 0, .string (⟨#[]⟩ : ByteArray)]) (t := 25) ?hr ?_; (case hd => rfl); (case hg => rfl); (case hr => first | (go_simp; done) | (go_simp; rfl)); intro gb168 hg w41 hbox hb; have n0_ := Aside0.mk (Kd.R_below (Kd.R_elderB (by (with_reducible repeat (first | apply Kd.R_alloc | apply Kd.R_drewN | apply Kd.R_drew)); exact HO138.out) gb168 (Nat.le_of_eq hg.symm)) hb); have n1_ := Aside0.mk (Kd.R_below (Kd.R_elderB (by (with_reducible repeat (first | apply Kd.R_alloc | apply Kd.R_drewN | apply Kd.R_drew)); exact HO152.out) gb168 (Nat.le_of_eq hg.symm)) hb); have n2_ := Aside0.mk (Kd.R_below (Kd.R_elderB (by (with_reducible repeat (first | apply Kd.R_alloc | apply Kd.R_drewN | apply Kd.R_drew)); exact HO163.out) gb168 (Nat.le_of_eq hg.symm)) hb); have n3_ := Aside0.mk (blk_below (g := gb143) (o := .cells #[.int .i64 t139, .int .i64 t140, .string t141] 25 (0, 0)) (by (with_reducible repeat (first | refine blk_drewN ?_ _ | refine blk_drew ?_ | refine blk_alloc ?_ _)); exact BK143.out) hb); have n4_ := Aside0.mk (blk_below (g := gb157) (o := .cells #[.int .i64 t153, .int .i64 t154, .string t155] 25 (0, 0)) (by (with_reducible repeat (first | refine blk_drewN ?_ _ | refine blk_drew ?_ | refine blk_alloc ?_ _)); exact BK157.out) hb); have n5_ := Aside0.mk (below_step (by repeat (first | (with_reducible first | exact HB.out | apply below_alloc | apply pw_below_drewN | apply below_drew1 | refine below_set ?_ GE143.out | refine below_set ?_ GE157.out) | exact HB.out)) hb); have n6_ := Aside0.mk (hbox); have n7_ := Aside0.mk ((by rw [hg]; exact (below_size (by repeat (first | (with_reducible first | exact HB.out | apply below_alloc | apply pw_below_drewN | apply below_drew1 | refine below_set ?_ GE143.out | refine below_set ?_ GE157.out) | exact HB.out))) : w.heap.size ≤ gb168)); have n8_ := Aside0.mk ((by rw [hg]; exact (below_size (by repeat (first | (with_reducible first | exact HB.out | apply below_alloc | apply pw_below_drewN | apply below_drew1 | refine below_set ?_ GE143.out | refine below_set ?_ GE157.out) | exact HB.out))) : w.heap.size ≤ gb168)); have n9_ := Aside0.mk ((by rw [hg]; exact Nat.ne_of_lt (blk_lt (g := gb143) (o := .cells #[.int .i64 t139, .int .i64 t140, .string t141] 25 (0, 0)) (by (with_reducible repeat (first | refine blk_drewN ?_ _ | refine blk_drew ?_ | refine blk_alloc ?_ _)); exact BK143.out)) : gb143 ≠ gb168)); have n10_ := Aside0.mk ((by rw [hg]; exact Nat.ne_of_gt (blk_lt (g := gb143) (o := .cells #[.int .i64 t139, .int .i64 t140, .string t141] 25 (0, 0)) (by (with_reducible repeat (first | refine blk_drewN ?_ _ | refine blk_drew ?_ | refine blk_alloc ?_ _)); exact BK143.out)) : gb168 ≠ gb143)); have n11_ := Aside0.mk ((by rw [hg]; exact Nat.ne_of_lt (blk_lt (g := gb157) (o := .cells #[.int .i64 t153, .int .i64 t154, .string t155] 25 (0, 0)) (by (with_reducible repeat (first | refine blk_drewN ?_ _ | refine blk_drew ?_ | refine blk_alloc ?_ _)); exact BK157.out)) : gb157 ≠ gb168)); have n12_ := Aside0.mk ((by rw [hg]; exact Nat.ne_of_gt (blk_lt (g := gb157) (o := .cells #[.int .i64 t153, .int .i64 t154, .string t155] 25 (0, 0)) (by (with_reducible repeat (first | refine blk_drewN ?_ _ | refine blk_drew ?_ | refine blk_alloc ?_ _)); exact BK157.out)) : gb168 ≠ gb157)); clear HO138; clear HO152; clear HO163; clear BK143; clear BK157; clear HB; have HO138 := n0_; have HO152 := n1_; have HO163 := n2_; have BK143 := n3_; have BK157 := n4_; have HB := n5_; have BK168 := n6_; have GW168 := n7_; have GE168 := n8_; have NB143_168 := n9_; have NB168_143 := n10_; have NB157_168 := n11_; have NB168_157 := n12_; clear n0_ n1_ n2_ n3_ n4_ n5_ n6_ n7_ n8_ n9_ n10_ n11_ n12_; clear hb hbox hg; have hnb42 := NB168_143.out; have hnc42 := NB143_168.out; have hnb43 := NB168_157.out; have hnc43 := NB157_168.out; have hcz44_0 : w41.cell? ⟨gb168, 0, none⟩ = some (.int .i64 0) := (blk_cell BK168.out 0).trans rfl; have hcz44_1 : w41.cell? ⟨gb168, 1, none⟩ = some (.int .i64 0) := (blk_cell BK168.out 1).trans rfl; have hcz44_2 : w41.cell? ⟨gb168, 2, none⟩ = some (.string (⟨#[]⟩ : ByteArray)) := (blk_cell BK168.out 2).trans rfl; have hfz44_0 := blk_frozen BK168.out 0; have hfz44_1 := blk_frozen BK168.out 1; have hfz44_2 := blk_frozen BK168.out 2) | ((with_reducible refine gate_dst (N := 33) rfl ?_); refine Kd.R_lit (Kd.int .i64) _ 3 ?hg (N := 33) ?hd (xs := ([0, 3] : List Int)) (inner := [.int .i64 0, .int .i64 3]) (ok := fun _ => True) (okp := fun _ => True) ?hr ?hp (fun _ hk => hk) trivial (Below.refl _ _) (Nat.le_refl _) (by simp) ?_; (case hd => rfl); (case hg => rfl); (case hr => first | (go_simp; done) | (go_simp; rfl)); (case hp => exact (Reps.one (show Kd.M (Kd.int .i64) _ _ _ 0 [.int .i64 0] from rfl) (Reps.one (show Kd.M (Kd.int .i64) _ _ _ 3 [.int .i64 3] from rfl) (Reps.none _ _)))); intro v170 w45 ho46 hb hg_ hnew_; clear hg_ hnew_; (first | rw [← Ny169.out] at ho46 | (simp only [Int.reduceToNat] at ho46; rw [← Ny169.out] at ho46)); have n0_ := Aside0.mk (Kd.R_below (by (with_reducible repeat (first | apply Kd.R_alloc | apply Kd.R_drewN | apply Kd.R_drew)); exact (Kd.R_mono (Kd.R_far (p := ⟨gb168, 2, none⟩) (Kd.R_far (p := ⟨gb168, 1, none⟩) (Kd.R_far (p := ⟨gb168, 0, none⟩) (Kd.R_mono HO138.out (fun k_ hk => (⟨hk, hk.2⟩ : _ ∧ k_ ≠ gb168))) (fun _ hk => hk.2) (.int .i64 t164)) (fun _ hk => hk.2) (.int .i64 t165)) (fun _ hk => hk.2) (.string t166)) (fun _ h_ => h_.1))) hb); have n1_ := Aside0.mk (Kd.R_below (by (with_reducible repeat (first | apply Kd.R_alloc | apply Kd.R_drewN | apply Kd.R_drew)); exact (Kd.R_mono (Kd.R_far (p := ⟨gb168, 2, none⟩) (Kd.R_far (p := ⟨gb168, 1, none⟩) (Kd.R_far (p := ⟨gb168, 0, none⟩) (Kd.R_mono HO152.out (fun k_ hk => (⟨hk, hk.2⟩ : _ ∧ k_ ≠ gb168))) (fun _ hk => hk.2) (.int .i64 t164)) (fun _ hk => hk.2) (.int .i64 t165)) (fun _ hk => hk.2) (.string t166)) (fun _ h_ => h_.1))) hb); have n2_ := Aside0.mk (Kd.R_below (by (with_reducible repeat (first | apply Kd.R_alloc | apply Kd.R_drewN | apply Kd.R_drew)); exact (Kd.R_mono (Kd.R_far (p := ⟨gb168, 2, none⟩) (Kd.R_far (p := ⟨gb168, 1, none⟩) (Kd.R_far (p := ⟨gb168, 0, none⟩) (Kd.R_mono HO163.out (fun k_ hk => (⟨hk, hk.2⟩ : _ ∧ k_ ≠ gb168))) (fun _ hk => hk.2) (.int .i64 t164)) (fun _ hk => hk.2) (.int .i64 t165)) (fun _ hk => hk.2) (.string t166)) (fun _ h_ => h_.1))) hb); have n3_ := Aside0.mk (Kd.R_lower ho46 (below_size (by repeat (first | (with_reducible first | exact HB.out | apply below_alloc | apply pw_below_drewN | apply below_drew1 | refine below_set ?_ GE143.out | refine below_set ?_ GE157.out | refine below_set ?_ GE168.out) | exact HB.out)))); have n4_ := Aside0.mk (blk_below (g := gb143) (o := .cells #[.int .i64 t139, .int .i64 t140, .string t141] 25 (0, 0)) (by (with_reducible repeat (first | refine blk_drewN ?_ _ | refine blk_drew ?_ | refine blk_alloc ?_ _)); refine blk_far ?_ NB143_168.out _; (with_reducible repeat (first | refine blk_drewN ?_ _ | refine blk_drew ?_ | refine blk_alloc ?_ _)); refine blk_far ?_ NB143_168.out _; (with_reducible repeat (first | refine blk_drewN ?_ _ | refine blk_drew ?_ | refine blk_alloc ?_ _)); refine blk_far ?_ NB143_168.out _; (with_reducible repeat (first | refine blk_drewN ?_ _ | refine blk_drew ?_ | refine blk_alloc ?_ _)); exact BK143.out) hb); have n5_ := Aside0.mk (blk_below (g := gb157) (o := .cells #[.int .i64 t153, .int .i64 t154, .string t155] 25 (0, 0)) (by (with_reducible repeat (first | refine blk_drewN ?_ _ | refine blk_drew ?_ | refine blk_alloc ?_ _)); refine blk_far ?_ NB157_168.out _; (with_reducible repeat (first | refine blk_drewN ?_ _ | refine blk_drew ?_ | refine blk_alloc ?_ _)); refine blk_far ?_ NB157_168.out _; (with_reducible repeat (first | refine blk_drewN ?_ _ | refine blk_drew ?_ | refine blk_alloc ?_ _)); refine blk_far ?_ NB157_168.out _; (with_reducible repeat (first | refine blk_drewN ?_ _ | refine blk_drew ?_ | refine blk_alloc ?_ _)); exact BK157.out) hb); have n6_ := Aside0.mk (blk_below (g := gb168) (o := .cells #[.int .i64 t164, .int .i64 t165, .string t166] 25 (0, 0)) (by (with_reducible repeat (first | refine blk_drewN ?_ _ | refine blk_drew ?_ | refine blk_alloc ?_ _)); refine blk_put (cs := #[.int .i64 t164, .int .i64 t165, .string (⟨#[]⟩ : ByteArray)]) ?_ 2 _ rfl; (with_reducible repeat (first | refine blk_drewN ?_ _ | refine blk_drew ?_ | refine blk_alloc ?_ _)); refine blk_put (cs := #[.int .i64 t164, .int .i64 0, .string (⟨#[]⟩ : ByteArray)]) ?_ 1 _ rfl; (with_reducible repeat (first | refine blk_drewN ?_ _ | refine blk_drew ?_ | refine blk_alloc ?_ _)); refine blk_put (cs := #[.int .i64 0, .int .i64 0, .string (⟨#[]⟩ : ByteArray)]) ?_ 0 _ rfl; (with_reducible repeat (first | refine blk_drewN ?_ _ | refine blk_drew ?_ | refine blk_alloc ?_ _)); exact BK168.out) hb); have n7_ := Aside0.mk (below_step (by repeat (first | (with_reducible first | exact HB.out | apply below_alloc | apply pw_below_drewN | apply below_drew1 | refine below_set ?_ GE143.out | refine below_set ?_ GE157.out | refine below_set ?_ GE168.out) | exact HB.out)) hb); clear HO138; clear HO152; clear HO163; clear BK143; clear BK157; clear BK168; clear HB; have HO138 := n0_; have HO152 := n1_; have HO163 := n2_; have HO171 := n3_; have BK143 := n4_; have BK157 := n5_; have BK168 := n6_; have HB := n7_; clear n0_ n1_ n2_ n3_ n4_ n5_ n6_ n7_; clear hb ho46; obtain ⟨Ao47, co47, eo47⟩ := Kd.R_slice HO171.out; subst eo47) | ((with_reducible refine gate_callee (f := 15) rfl ?_); refine goesL_ (some 34) rfl rfl Try.func15 (by kernel_rfl) rfl #[.int .i64 7, .slice Ao47 y169.length co47] rfl (by (try simp only [List.map_toArray, List.map_cons, List.map_nil]); first | done | rfl | (simp only [List.length_drop, List.length_take]; rfl)) ?_; (with_reducible refine (arith_Type.calls k 7 _ _ y169 t172 true _ ?side1 ?side2 A9.out).mono ?_); (case side1 => repeat (first | exact (Kd.R_reads' HO171.out).2.2 | (with_reducible refine Kd.C_alloc ?_ _) | (with_reducible refine Kd.C_drewN ?_ _) | (with_reducible refine Kd.C_drew ?_))); (case side2 => exact (Kd.R_reads' HO171.out).2.1); rintro e w' ⟨rfl, ⟨nd, rfl⟩⟩; refine ⟨_, rfl, ?_⟩) | ((with_reducible refine gate_dst (N := 38) rfl ?_); refine Kd.R_lit (Kd.int .i64) _ 3 ?hg (N := 38) ?hd (xs := ([0, 0] : List Int)) (inner := [.int .i64 0, .int .i64 0]) (ok := fun _ => True) (okp := fun _ => True) ?hr ?hp (fun _ hk => hk) trivial (Below.refl _ _) (Nat.le_refl _) (by simp) ?_; (case hd => rfl); (case hg => rfl); (case hr => first | (go_simp; done) | (go_simp; rfl)); (case hp => exact (Reps.one (show Kd.M (Kd.int .i64) _ _ _ 0 [.int .i64 0] from rfl) (Reps.one (show Kd.M (Kd.int .i64) _ _ _ 0 [.int .i64 0] from rfl) (Reps.none _ _)))); intro v175 w48 ho49 hb hg_ hnew_; clear hg_ hnew_; (first | rw [← Ny174.out] at ho49 | (simp only [Int.reduceToNat] at ho49; rw [← Ny174.out] at ho49)); have n0_ := Aside0.mk (Kd.R_below (by (with_reducible repeat (first | apply Kd.R_alloc | apply Kd.R_drewN | apply Kd.R_drew)); exact HO138.out) hb); have n1_ := Aside0.mk (Kd.R_below (by (with_reducible repeat (first | apply Kd.R_alloc | apply Kd.R_drewN | apply Kd.R_drew)); exact HO152.out) hb); have n2_ := Aside0.mk (Kd.R_below (by (with_reducible repeat (first | apply Kd.R_alloc | apply Kd.R_drewN | apply Kd.R_drew)); exact HO163.out) hb); have n3_ := Aside0.mk (Kd.R_elder' (by (with_reducible repeat (first | apply Kd.R_alloc | apply Kd.R_drewN | apply Kd.R_drew)); exact HO171.out) (Kd.R_base ho49) hb); have n4_ := Aside0.mk (Kd.R_lower (Kd.R_new' ho49 (Kd.R_lt (by (with_reducible repeat (first | apply Kd.R_alloc | apply Kd.R_drewN | apply Kd.R_drew)); exact HO171.out))) (below_size (by repeat (first | (with_reducible first | exact HB.out | apply below_alloc | apply pw_below_drewN | apply below_drew1 | refine below_set ?_ GE143.out | refine below_set ?_ GE157.out | refine below_set ?_ GE168.out) | exact HB.out)))); have n5_ := Aside0.mk (blk_below (g := gb143) (o := .cells #[.int .i64 t139, .int .i64 t140, .string t141] 25 (0, 0)) (by (with_reducible repeat (first | refine blk_drewN ?_ _ | refine blk_drew ?_ | refine blk_alloc ?_ _)); exact BK143.out) hb); have n6_ := Aside0.mk (blk_below (g := gb157) (o := .cells #[.int .i64 t153, .int .i64 t154, .string t155] 25 (0, 0)) (by (with_reducible repeat (first | refine blk_drewN ?_ _ | refine blk_drew ?_ | refine blk_alloc ?_ _)); exact BK157.out) hb); have n7_ := Aside0.mk (blk_below (g := gb168) (o := .cells #[.int .i64 t164, .int .i64 t165, .string t166] 25 (0, 0)) (by (with_reducible repeat (first | refine blk_drewN ?_ _ | refine blk_drew ?_ | refine blk_alloc ?_ _)); exact BK168.out) hb); have n8_ := Aside0.mk (below_step (by repeat (first | (with_reducible first | exact HB.out | apply below_alloc | apply pw_below_drewN | apply below_drew1 | refine below_set ?_ GE143.out | refine below_set ?_ GE157.out | refine below_set ?_ GE168.out) | exact HB.out)) hb); clear HO138; clear HO152; clear HO163; clear HO171; clear BK143; clear BK157; clear BK168; clear HB; have HO138 := n0_; have HO152 := n1_; have HO163 := n2_; have HO171 := n3_; have HO176 := n4_; have BK143 := n5_; have BK157 := n6_; have BK168 := n7_; have HB := n8_; clear n0_ n1_ n2_ n3_ n4_ n5_ n6_ n7_ n8_; clear hb ho49; obtain ⟨Ao50, co50, eo50⟩ := Kd.R_slice HO176.out; subst eo50) | ((with_reducible refine gate_callee (f := 15) rfl ?_); refine goesL_ (some 39) rfl rfl Try.func15 (by kernel_rfl) rfl #[.int .i64 7, .slice Ao50 y174.length co50] rfl (by (try simp only [List.map_toArray, List.map_cons, List.map_nil]); first | done | rfl | (simp only [List.length_drop, List.length_take]; rfl)) ?_; (with_reducible refine (arith_Type.calls k 7 _ _ y174 t177 t178 _ ?side1 ?side2 A10.out).mono ?_); (case side1 => repeat (first | exact (Kd.R_reads' HO176.out).2.2 | (with_reducible refine Kd.C_alloc ?_ _) | (with_reducible refine Kd.C_drewN ?_ _) | (with_reducible refine Kd.C_drew ?_))); (case side2 => exact (Kd.R_reads' HO176.out).2.1); rintro e w' ⟨rfl, ⟨nd, rfl⟩⟩; refine ⟨_, rfl, ?_⟩))
                (try (rw [drewN_self w48]; generalize hq_ : World.drewN w48 _ = w48; have n0_ : Aside0 (Kd.R k25 25 w48 w.heap.size (fun k_ => some k_ ≠ (.slice Ao31 y150.length co31 : Value).ownBlock ∧ some k_ ≠ (.slice Ao39 y161.length co39 : Value).ownBlock ∧ k_ ≠ gb143 ∧ k_ ≠ gb157 ∧ k_ ≠ gb168) (.slice Ao23 y136.length co23) y136) := ⟨by rw [← hq_]; exact (by (with_reducible repeat (first | apply Kd.R_alloc | apply Kd.R_drewN | apply Kd.R_drew)); exact Kd.R_mono HO138.out (fun _ hk => ⟨hk.1.1.1.2, ⟨hk.1.2, ⟨hk.1.1.1.1.2, ⟨hk.1.1.2, hk.2⟩⟩⟩⟩))⟩; have n1_ : Aside0 (Kd.R k25 25 w48 w.heap.size (fun k_ => some k_ ≠ (.slice Ao23 y136.length co23 : Value).ownBlock ∧ some k_ ≠ (.slice Ao39 y161.length co39 : Value).ownBlock ∧ k_ ≠ gb143 ∧ k_ ≠ gb157 ∧ k_ ≠ gb168) (.slice Ao31 y150.length co31) y150) := ⟨by rw [← hq_]; exact (by (with_reducible repeat (first | apply Kd.R_alloc | apply Kd.R_drewN | apply Kd.R_drew)); exact Kd.R_mono HO152.out (fun _ hk => ⟨hk.1.1.1.1.2, ⟨hk.1.2, ⟨hk.1.1.1.2, ⟨hk.1.1.2, hk.2⟩⟩⟩⟩))⟩; have n2_ : Aside0 (Kd.R k25 25 w48 w.heap.size (fun k_ => some k_ ≠ (.slice Ao23 y136.length co23 : Value).ownBlock ∧ some k_ ≠ (.slice Ao31 y150.length co31 : Value).ownBlock ∧ k_ ≠ gb143 ∧ k_ ≠ gb157 ∧ k_ ≠ gb168) (.slice Ao39 y161.length co39) y161) := ⟨by rw [← hq_]; exact (by (with_reducible repeat (first | apply Kd.R_alloc | apply Kd.R_drewN | apply Kd.R_drew)); exact Kd.R_mono HO163.out (fun _ hk => ⟨hk.1.1.1.1.2, ⟨hk.1.1.1.2, ⟨hk.1.1.2, ⟨hk.1.2, hk.2⟩⟩⟩⟩))⟩; have n3_ : Aside0 (Kd.R (Kd.int .i64) 3 w48 w.heap.size (fun k_ => some k_ ≠ (.slice Ao50 y174.length co50 : Value).ownBlock) (.slice Ao47 y169.length co47) y169) := ⟨by rw [← hq_]; exact (by (with_reducible repeat (first | apply Kd.R_alloc | apply Kd.R_drewN | apply Kd.R_drew)); exact Kd.R_mono HO171.out (fun _ hk => hk.2))⟩; have n4_ : Aside0 (Kd.R (Kd.int .i64) 3 w48 w.heap.size (fun k_ => some k_ ≠ (.slice Ao47 y169.length co47 : Value).ownBlock) (.slice Ao50 y174.length co50) y174) := ⟨by rw [← hq_]; exact (by (with_reducible repeat (first | apply Kd.R_alloc | apply Kd.R_drewN | apply Kd.R_drew)); exact Kd.R_mono HO176.out (fun _ hk => hk.2))⟩; have n5_ : Aside0 (w48.heap[gb143]? = some (.cells #[.int .i64 t139, .int .i64 t140, .string t141] 25 (0, 0))) := ⟨by rw [← hq_]; exact (by (with_reducible repeat (first | refine blk_drewN ?_ _ | refine blk_drew ?_ | refine blk_alloc ?_ _)); exact BK143.out)⟩; have n6_ : Aside0 (w48.heap[gb157]? = some (.cells #[.int .i64 t153, .int .i64 t154, .string t155] 25 (0, 0))) := ⟨by rw [← hq_]; exact (by (with_reducible repeat (first | refine blk_drewN ?_ _ | refine blk_drew ?_ | refine blk_alloc ?_ _)); exact BK157.out)⟩; have n7_ : Aside0 (w48.heap[gb168]? = some (.cells #[.int .i64 t164, .int .i64 t165, .string t166] 25 (0, 0))) := ⟨by rw [← hq_]; exact (by (with_reducible repeat (first | refine blk_drewN ?_ _ | refine blk_drew ?_ | refine blk_alloc ?_ _)); exact BK168.out)⟩; have n8_ : Aside0 (Below w.heap.size w w48) := ⟨by rw [← hq_]; exact (by repeat (first | (with_reducible first | exact HB.out | apply below_alloc | apply pw_below_drewN | apply below_drew1 | refine below_set ?_ GE143.out | refine below_set ?_ GE157.out | refine below_set ?_ GE168.out) | exact HB.out))⟩; clear HO138 HO152 HO163 HO171 HO176 BK143 BK157 BK168 HB hq_; have HO138 := n0_; have HO152 := n1_; have HO163 := n2_; have HO171 := n3_; have HO176 := n4_; have BK143 := n5_; have BK157 := n6_; have BK168 := n7_; have HB := n8_; clear n0_ n1_ n2_ n3_ n4_ n5_ n6_ n7_ n8_))
                have n0_ := Aside0.mk (Kd.R_drew HO138.out)
                have n1_ := Aside0.mk (Kd.R_drew HO152.out)
                have n2_ := Aside0.mk (Kd.R_drew HO163.out)
                have n3_ := Aside0.mk (Kd.R_drew HO171.out)
                have n4_ := Aside0.mk (Kd.R_drew HO176.out)
                have n5_ := Aside0.mk (blk_drew BK143.out)
                have n6_ := Aside0.mk (blk_drew BK157.out)
                have n7_ := Aside0.mk (blk_drew BK168.out)
                have n8_ := Aside0.mk (below_drew1 HB.out)
                clear HO138
                clear HO152
                clear HO163
                clear HO171
                clear HO176
                clear BK143
                clear BK157
                clear BK168
                clear HB
                have HO138 := n0_
                have HO152 := n1_
                have HO163 := n2_
                have HO171 := n3_
                have HO176 := n4_
                have BK143 := n5_
                have BK157 := n6_
                have BK168 := n7_
                have HB := n8_
                clear n0_ n1_ n2_ n3_ n4_ n5_ n6_ n7_ n8_
                refine start_ (n := 32) (S := fun w' => w'.cell? ⟨gb157, 0, none⟩ = some (.int .i64 t153) ∧ w'.cell? ⟨gb157, 1, none⟩ = some (.int .i64 t154) ∧ w'.cell? ⟨gb157, 2, none⟩ = some (.string t155) ∧ w'.cell? ⟨gb168, 0, none⟩ = some (.int .i64 t164) ∧ w'.cell? ⟨gb168, 1, none⟩ = some (.int .i64 t165) ∧ w'.cell? ⟨gb168, 2, none⟩ = some (.string t166)) (ds := []) #[false, false, false, false, false, false, false, false, false, false, false, false, false, false, false, false, false, false, false, false, false, false, false, false, false, false, false, false, false, false, false, false] (by kernel_rfl) rfl rfl ⟨(blk_cell BK157.out 0).trans rfl, (blk_cell BK157.out 1).trans rfl, (blk_cell BK157.out 2).trans rfl, (blk_cell BK168.out 0).trans rfl, (blk_cell BK168.out 1).trans rfl, (blk_cell BK168.out 2).trans rfl⟩ (fun hHeld => ?_); refine with_tabW hasplaw03_speaksG.tab6 hasplaw03_speaksG.bits6 (fun HT_ HW_ => ?_)
                generalize w48.drew = w51 at HO138 HO152 HO163 HO171 HO176 BK143 BK157 BK168 HB hHeld ⊢
                refine pure_ (i := 0) (N := some 42) (v := ?_) (a' := ?_) #[true, false, false, false, false, false, false, false, false, false, false, false, false, false, false, false, false, false, false, false, false, false, false, false, false, false, false, false, false, false, false, false] rfl rfl (any_of HT_.out (by kernel_rfl)) (fun _ _ _ h => h) (Or.inl ⟨by rfl, ?_⟩) ?_ ?_
                rotate_left
                · intro w'
                  go_simp
                  with_reducible rfl
                rotate_left
                · simp only [Act.put, List.setIfInBounds_toArray, List.set_cons_zero, List.set_cons_succ, i64_w, i32_w]
                  rfl
                refine pure_ (i := 1) (N := some 43) (v := ?_) (a' := ?_) #[true, true, false, false, false, false, false, false, false, false, false, false, false, false, false, false, false, false, false, false, false, false, false, false, false, false, false, false, false, false, false, false] rfl rfl (any_of HT_.out (by kernel_rfl)) (fun _ _ _ h => h) (Or.inl ⟨by rfl, ?_⟩) ?_ ?_
                rotate_left
                · intro w'
                  go_simp
                  with_reducible rfl
                rotate_left
                · simp only [Act.put, List.setIfInBounds_toArray, List.set_cons_zero, List.set_cons_succ, i64_w, i32_w]
                  rfl
                refine pure_ (i := 2) (N := some 44) (v := ?_) (a' := ?_) #[true, true, true, false, false, false, false, false, false, false, false, false, false, false, false, false, false, false, false, false, false, false, false, false, false, false, false, false, false, false, false, false] rfl rfl (any_of HT_.out (by kernel_rfl)) (fun _ _ _ h => h) (Or.inl ⟨by rfl, ?_⟩) ?_ ?_
                rotate_left
                · intro w'
                  go_simp
                  with_reducible rfl
                rotate_left
                · simp only [Act.put, List.setIfInBounds_toArray, List.set_cons_zero, List.set_cons_succ, i64_w, i32_w]
                  rfl
                refine take_ (i := 3) (N := some 45) (v := ?_) (a' := ?_) #[true, true, true, true, false, false, false, false, false, false, false, false, false, false, false, false, false, false, false, false, false, false, false, false, false, false, false, false, false, false, false, false] rfl rfl (take_ofW HT_.out HW_.out (by kernel_rfl)) (fun _ _ _ h => h) (Or.inl ⟨by rfl, ?_⟩) hHeld ?_ ?_
                rotate_left
                · rintro w' ⟨s0, s1, s2, s3, s4, s5⟩
                  go_simp
                  with_reducible rfl
                rotate_left
                · simp only [Act.put, List.setIfInBounds_toArray, List.set_cons_zero, List.set_cons_succ, i64_w, i32_w]
                  rfl
                refine one_ (i := 4) (N := some 46) #[true, true, true, true, true, false, false, false, false, false, false, false, false, false, false, false, false, false, false, false, false, false, false, false, false, false, false, false, false, false, false, false] rfl rfl (one_of HT_.out (by kernel_rfl)) (by decide) (fun K hK => ?_)
                refine goes_ Try.func17 (by kernel_rfl) rfl #[.int .i64 (-1)] (by rfl) rfl rfl (by (try simp only [List.map_toArray, List.map_cons, List.map_nil]); first | done | rfl | (simp only [List.length_drop, List.length_take]; rfl)) ?_
                with_reducible refine (hasplaw03_num.calls (-1) t179 t180 t181 _ A12.out).mono ?_
                rintro e w52 ⟨rfl, hb⟩
                refine ⟨_, rfl, ?_⟩
                have n0_ := Aside0.mk (Kd.R_below (by (with_reducible repeat (first | apply Kd.R_alloc | apply Kd.R_drewN | apply Kd.R_drew)); exact HO138.out) hb)
                have n1_ := Aside0.mk (Kd.R_below (by (with_reducible repeat (first | apply Kd.R_alloc | apply Kd.R_drewN | apply Kd.R_drew)); exact HO152.out) hb)
                have n2_ := Aside0.mk (Kd.R_below (by (with_reducible repeat (first | apply Kd.R_alloc | apply Kd.R_drewN | apply Kd.R_drew)); exact HO163.out) hb)
                have n3_ := Aside0.mk (Kd.R_below (by (with_reducible repeat (first | apply Kd.R_alloc | apply Kd.R_drewN | apply Kd.R_drew)); exact HO171.out) hb)
                have n4_ := Aside0.mk (Kd.R_below (by (with_reducible repeat (first | apply Kd.R_alloc | apply Kd.R_drewN | apply Kd.R_drew)); exact HO176.out) hb)
                have n5_ := Aside0.mk (blk_below (g := gb143) (o := .cells #[.int .i64 t139, .int .i64 t140, .string t141] 25 (0, 0)) (by (with_reducible repeat (first | refine blk_drewN ?_ _ | refine blk_drew ?_ | refine blk_alloc ?_ _)); exact BK143.out) hb)
                have n6_ := Aside0.mk (blk_below (g := gb157) (o := .cells #[.int .i64 t153, .int .i64 t154, .string t155] 25 (0, 0)) (by (with_reducible repeat (first | refine blk_drewN ?_ _ | refine blk_drew ?_ | refine blk_alloc ?_ _)); exact BK157.out) hb)
                have n7_ := Aside0.mk (blk_below (g := gb168) (o := .cells #[.int .i64 t164, .int .i64 t165, .string t166] 25 (0, 0)) (by (with_reducible repeat (first | refine blk_drewN ?_ _ | refine blk_drew ?_ | refine blk_alloc ?_ _)); exact BK168.out) hb)
                have n8_ := Aside0.mk (below_step (by repeat (first | (with_reducible first | exact HB.out | apply below_alloc | apply pw_below_drewN | apply below_drew1 | refine below_set ?_ GE143.out | refine below_set ?_ GE157.out | refine below_set ?_ GE168.out) | exact HB.out)) hb)
                clear HO138
                clear HO152
                clear HO163
                clear HO171
                clear HO176
                clear BK143
                clear BK157
                clear BK168
                clear HB
                have HO138 := n0_
                have HO152 := n1_
                have HO163 := n2_
                have HO171 := n3_
                have HO176 := n4_
                have BK143 := n5_
                have BK157 := n6_
                have BK168 := n7_
                have HB := n8_
                clear n0_ n1_ n2_ n3_ n4_ n5_ n6_ n7_ n8_
                (try clear hb)
                (try clear hb2)
                (try clear hk)
                (try clear hi)
                refine hK.out _ _ ⟨(blk_cell BK157.out 0).trans rfl, (blk_cell BK157.out 1).trans rfl, (blk_cell BK157.out 2).trans rfl, (blk_cell BK168.out 0).trans rfl, (blk_cell BK168.out 1).trans rfl, (blk_cell BK168.out 2).trans rfl⟩ (fun hHeld => ?_)
                clear hK K
                refine norm_ (a' := ?_) ?_ ?_
                rotate_left
                · show Act.put _ (some 46) _ = _
                  simp only [Act.put, List.setIfInBounds_toArray, List.set_cons_zero, List.set_cons_succ, i64_w, i32_w]
                  rfl
                refine pure_ (i := 5) (N := some 47) (v := ?_) (a' := ?_) #[true, true, true, true, true, true, false, false, false, false, false, false, false, false, false, false, false, false, false, false, false, false, false, false, false, false, false, false, false, false, false, false] rfl rfl (any_of HT_.out (by kernel_rfl)) (fun _ _ _ h => h) (Or.inl ⟨by rfl, ?_⟩) ?_ ?_
                rotate_left
                · intro w'
                  go_simp
                  with_reducible rfl
                rotate_left
                · simp only [Act.put, List.setIfInBounds_toArray, List.set_cons_zero, List.set_cons_succ, i64_w, i32_w]
                  rfl
                refine pure_ (i := 6) (N := some 48) (v := ?_) (a' := ?_) #[true, true, true, true, true, true, true, false, false, false, false, false, false, false, false, false, false, false, false, false, false, false, false, false, false, false, false, false, false, false, false, false] rfl rfl (any_of HT_.out (by kernel_rfl)) (fun _ _ _ h => h) (Or.inl ⟨by rfl, ?_⟩) ?_ ?_
                rotate_left
                · intro w'
                  go_simp
                  with_reducible rfl
                rotate_left
                · simp only [Act.put, List.setIfInBounds_toArray, List.set_cons_zero, List.set_cons_succ, i64_w, i32_w]
                  rfl
                refine pure_ (i := 7) (N := some 49) (v := ?_) (a' := ?_) #[true, true, true, true, true, true, true, true, false, false, false, false, false, false, false, false, false, false, false, false, false, false, false, false, false, false, false, false, false, false, false, false] rfl rfl (any_of HT_.out (by kernel_rfl)) (fun _ _ _ h => h) (Or.inl ⟨by rfl, ?_⟩) ?_ ?_
                rotate_left
                · intro w'
                  go_simp
                  with_reducible rfl
                rotate_left
                · simp only [Act.put, List.setIfInBounds_toArray, List.set_cons_zero, List.set_cons_succ, i64_w, i32_w]
                  rfl
                refine pure_ (i := 8) (N := some 50) (v := ?_) (a' := ?_) #[true, true, true, true, true, true, true, true, true, false, false, false, false, false, false, false, false, false, false, false, false, false, false, false, false, false, false, false, false, false, false, false] rfl rfl (any_of HT_.out (by kernel_rfl)) (fun _ _ _ h => h) (Or.inl ⟨by rfl, ?_⟩) ?_ ?_
                rotate_left
                · intro w'
                  go_simp
                  with_reducible rfl
                rotate_left
                · simp only [Act.put, List.setIfInBounds_toArray, List.set_cons_zero, List.set_cons_succ, i64_w, i32_w]
                  rfl
                refine pure_ (i := 9) (N := some 51) (v := ?_) (a' := ?_) #[true, true, true, true, true, true, true, true, true, true, false, false, false, false, false, false, false, false, false, false, false, false, false, false, false, false, false, false, false, false, false, false] rfl rfl (any_of HT_.out (by kernel_rfl)) (fun _ _ _ h => h) (Or.inl ⟨by rfl, ?_⟩) ?_ ?_
                rotate_left
                · intro w'
                  go_simp
                  with_reducible rfl
                rotate_left
                · simp only [Act.put, List.setIfInBounds_toArray, List.set_cons_zero, List.set_cons_succ, i64_w, i32_w]
                  rfl
                refine pure_ (i := 10) (N := some 52) (v := ?_) (a' := ?_) #[true, true, true, true, true, true, true, true, true, true, true, false, false, false, false, false, false, false, false, false, false, false, false, false, false, false, false, false, false, false, false, false] rfl rfl (any_of HT_.out (by kernel_rfl)) (fun _ _ _ h => h) (Or.inl ⟨by rfl, ?_⟩) ?_ ?_
                rotate_left
                · intro w'
                  go_simp
                  with_reducible rfl
                rotate_left
                · simp only [Act.put, List.setIfInBounds_toArray, List.set_cons_zero, List.set_cons_succ, i64_w, i32_w]
                  rfl
                refine pure_ (i := 11) (N := some 53) (v := ?_) (a' := ?_) #[true, true, true, true, true, true, true, true, true, true, true, true, false, false, false, false, false, false, false, false, false, false, false, false, false, false, false, false, false, false, false, false] rfl rfl (any_of HT_.out (by kernel_rfl)) (fun _ _ _ h => h) (Or.inl ⟨by rfl, ?_⟩) ?_ ?_
                rotate_left
                · intro w'
                  go_simp
                  with_reducible rfl
                rotate_left
                · simp only [Act.put, List.setIfInBounds_toArray, List.set_cons_zero, List.set_cons_succ, i64_w, i32_w]
                  rfl
                refine pure_ (i := 13) (N := some 55) (v := ?_) (a' := ?_) #[true, true, true, true, true, true, true, true, true, true, true, true, false, true, false, false, false, false, false, false, false, false, false, false, false, false, false, false, false, false, false, false] rfl rfl (any_of HT_.out (by kernel_rfl)) (fun _ _ _ h => h) (Or.inl ⟨by rfl, ?_⟩) ?_ ?_
                rotate_left
                · intro w'
                  go_simp
                  with_reducible rfl
                rotate_left
                · simp only [Act.put, List.setIfInBounds_toArray, List.set_cons_zero, List.set_cons_succ, i64_w, i32_w]
                  rfl
                refine take_ (i := 12) (N := some 54) (v := ?_) (a' := ?_) #[true, true, true, true, true, true, true, true, true, true, true, true, true, true, false, false, false, false, false, false, false, false, false, false, false, false, false, false, false, false, false, false] rfl rfl (take_ofW HT_.out HW_.out (by kernel_rfl)) (fun _ _ _ h => h) (Or.inl ⟨by rfl, ?_⟩) hHeld ?_ ?_
                rotate_left
                · rintro w' ⟨s0, s1, s2, s3, s4, s5⟩
                  go_simp
                  with_reducible rfl
                rotate_left
                · simp only [Act.put, List.setIfInBounds_toArray, List.set_cons_zero, List.set_cons_succ, i64_w, i32_w]
                  rfl
                refine pure_ (i := 14) (N := some 56) (v := ?_) (a' := ?_) #[true, true, true, true, true, true, true, true, true, true, true, true, true, true, true, false, false, false, false, false, false, false, false, false, false, false, false, false, false, false, false, false] rfl rfl (any_of HT_.out (by kernel_rfl)) (fun _ _ _ h => h) (Or.inl ⟨by rfl, ?_⟩) ?_ ?_
                rotate_left
                · intro w'
                  go_simp
                  with_reducible rfl
                rotate_left
                · simp only [Act.put, List.setIfInBounds_toArray, List.set_cons_zero, List.set_cons_succ, i64_w, i32_w]
                  rfl
                refine pure_ (i := 15) (N := some 57) (v := ?_) (a' := ?_) #[true, true, true, true, true, true, true, true, true, true, true, true, true, true, true, true, false, false, false, false, false, false, false, false, false, false, false, false, false, false, false, false] rfl rfl (any_of HT_.out (by kernel_rfl)) (fun _ _ _ h => h) (Or.inl ⟨by rfl, ?_⟩) ?_ ?_
                rotate_left
                · intro w'
                  go_simp
                  with_reducible rfl
                rotate_left
                · simp only [Act.put, List.setIfInBounds_toArray, List.set_cons_zero, List.set_cons_succ, i64_w, i32_w]
                  rfl
                refine pure_ (i := 16) (N := some 58) (v := ?_) (a' := ?_) #[true, true, true, true, true, true, true, true, true, true, true, true, true, true, true, true, true, false, false, false, false, false, false, false, false, false, false, false, false, false, false, false] rfl rfl (any_of HT_.out (by kernel_rfl)) (fun _ _ _ h => h) (Or.inl ⟨by rfl, ?_⟩) ?_ ?_
                rotate_left
                · intro w'
                  go_simp
                  with_reducible rfl
                rotate_left
                · simp only [Act.put, List.setIfInBounds_toArray, List.set_cons_zero, List.set_cons_succ, i64_w, i32_w]
                  rfl
                refine pure_ (i := 17) (N := some 59) (v := ?_) (a' := ?_) #[true, true, true, true, true, true, true, true, true, true, true, true, true, true, true, true, true, true, false, false, false, false, false, false, false, false, false, false, false, false, false, false] rfl rfl (any_of HT_.out (by kernel_rfl)) (fun _ _ _ h => h) (Or.inl ⟨by rfl, ?_⟩) ?_ ?_
                rotate_left
                · intro w'
                  go_simp
                  with_reducible rfl
                rotate_left
                · simp only [Act.put, List.setIfInBounds_toArray, List.set_cons_zero, List.set_cons_succ, i64_w, i32_w]
                  rfl
                refine pure_ (i := 18) (N := some 60) (v := ?_) (a' := ?_) #[true, true, true, true, true, true, true, true, true, true, true, true, true, true, true, true, true, true, true, false, false, false, false, false, false, false, false, false, false, false, false, false] rfl rfl (any_of HT_.out (by kernel_rfl)) (fun _ _ _ h => h) (Or.inl ⟨by rfl, ?_⟩) ?_ ?_
                rotate_left
                · intro w'
                  go_simp
                  with_reducible rfl
                rotate_left
                · simp only [Act.put, List.setIfInBounds_toArray, List.set_cons_zero, List.set_cons_succ, i64_w, i32_w]
                  rfl
                refine pure_ (i := 19) (N := some 61) (v := ?_) (a' := ?_) #[true, true, true, true, true, true, true, true, true, true, true, true, true, true, true, true, true, true, true, true, false, false, false, false, false, false, false, false, false, false, false, false] rfl rfl (any_of HT_.out (by kernel_rfl)) (fun _ _ _ h => h) (Or.inl ⟨by rfl, ?_⟩) ?_ ?_
                rotate_left
                · intro w'
                  go_simp
                  with_reducible rfl
                rotate_left
                · simp only [Act.put, List.setIfInBounds_toArray, List.set_cons_zero, List.set_cons_succ, i64_w, i32_w]
                  rfl
                refine pure_ (i := 20) (N := some 62) (v := ?_) (a' := ?_) #[true, true, true, true, true, true, true, true, true, true, true, true, true, true, true, true, true, true, true, true, true, false, false, false, false, false, false, false, false, false, false, false] rfl rfl (any_of HT_.out (by kernel_rfl)) (fun _ _ _ h => h) (Or.inl ⟨by rfl, ?_⟩) ?_ ?_
                rotate_left
                · intro w'
                  go_simp
                  with_reducible rfl
                rotate_left
                · simp only [Act.put, List.setIfInBounds_toArray, List.set_cons_zero, List.set_cons_succ, i64_w, i32_w]
                  rfl
                refine pure_ (i := 21) (N := some 63) (v := ?_) (a' := ?_) #[true, true, true, true, true, true, true, true, true, true, true, true, true, true, true, true, true, true, true, true, true, true, false, false, false, false, false, false, false, false, false, false] rfl rfl (any_of HT_.out (by kernel_rfl)) (fun _ _ _ h => h) (Or.inl ⟨by rfl, ?_⟩) ?_ ?_
                rotate_left
                · intro w'
                  go_simp
                  with_reducible rfl
                rotate_left
                · simp only [Act.put, List.setIfInBounds_toArray, List.set_cons_zero, List.set_cons_succ, i64_w, i32_w]
                  rfl
                refine pure_ (i := 22) (N := some 64) (v := ?_) (a' := ?_) #[true, true, true, true, true, true, true, true, true, true, true, true, true, true, true, true, true, true, true, true, true, true, true, false, false, false, false, false, false, false, false, false] rfl rfl (any_of HT_.out (by kernel_rfl)) (fun _ _ _ h => h) (Or.inl ⟨by rfl, ?_⟩) ?_ ?_
                rotate_left
                · intro w'
                  go_simp
                  with_reducible rfl
                rotate_left
                · simp only [Act.put, List.setIfInBounds_toArray, List.set_cons_zero, List.set_cons_succ, i64_w, i32_w]
                  rfl
                refine pure_ (i := 23) (N := some 65) (v := ?_) (a' := ?_) #[true, true, true, true, true, true, true, true, true, true, true, true, true, true, true, true, true, true, true, true, true, true, true, true, false, false, false, false, false, false, false, false] rfl rfl (any_of HT_.out (by kernel_rfl)) (fun _ _ _ h => h) (Or.inl ⟨by rfl, ?_⟩) ?_ ?_
                rotate_left
                · intro w'
                  go_simp
                  with_reducible rfl
                rotate_left
                · simp only [Act.put, List.setIfInBounds_toArray, List.set_cons_zero, List.set_cons_succ, i64_w, i32_w]
                  rfl
                refine pure_ (i := 24) (N := some 66) (v := ?_) (a' := ?_) #[true, true, true, true, true, true, true, true, true, true, true, true, true, true, true, true, true, true, true, true, true, true, true, true, true, false, false, false, false, false, false, false] rfl rfl (any_of HT_.out (by kernel_rfl)) (fun _ _ _ h => h) (Or.inl ⟨by rfl, ?_⟩) ?_ ?_
                rotate_left
                · intro w'
                  go_simp
                  with_reducible rfl
                rotate_left
                · simp only [Act.put, List.setIfInBounds_toArray, List.set_cons_zero, List.set_cons_succ, i64_w, i32_w]
                  rfl
                refine pure_ (i := 25) (N := some 67) (v := ?_) (a' := ?_) #[true, true, true, true, true, true, true, true, true, true, true, true, true, true, true, true, true, true, true, true, true, true, true, true, true, true, false, false, false, false, false, false] rfl rfl (any_of HT_.out (by kernel_rfl)) (fun _ _ _ h => h) (Or.inl ⟨by rfl, ?_⟩) ?_ ?_
                rotate_left
                · intro w'
                  go_simp
                  with_reducible rfl
                rotate_left
                · simp only [Act.put, List.setIfInBounds_toArray, List.set_cons_zero, List.set_cons_succ, i64_w, i32_w]
                  rfl
                refine pure_ (i := 26) (N := some 68) (v := ?_) (a' := ?_) #[true, true, true, true, true, true, true, true, true, true, true, true, true, true, true, true, true, true, true, true, true, true, true, true, true, true, true, false, false, false, false, false] rfl rfl (any_of HT_.out (by kernel_rfl)) (fun _ _ _ h => h) (Or.inl ⟨by rfl, ?_⟩) ?_ ?_
                rotate_left
                · intro w'
                  go_simp
                  with_reducible rfl
                rotate_left
                · simp only [Act.put, List.setIfInBounds_toArray, List.set_cons_zero, List.set_cons_succ, i64_w, i32_w]
                  rfl
                refine pure_ (i := 27) (N := some 69) (v := ?_) (a' := ?_) #[true, true, true, true, true, true, true, true, true, true, true, true, true, true, true, true, true, true, true, true, true, true, true, true, true, true, true, true, false, false, false, false] rfl rfl (any_of HT_.out (by kernel_rfl)) (fun _ _ _ h => h) (Or.inl ⟨by rfl, ?_⟩) ?_ ?_
                rotate_left
                · intro w'
                  go_simp
                  with_reducible rfl
                rotate_left
                · simp only [Act.put, List.setIfInBounds_toArray, List.set_cons_zero, List.set_cons_succ, i64_w, i32_w]
                  rfl
                refine pure_ (i := 28) (N := some 70) (v := ?_) (a' := ?_) #[true, true, true, true, true, true, true, true, true, true, true, true, true, true, true, true, true, true, true, true, true, true, true, true, true, true, true, true, true, false, false, false] rfl rfl (any_of HT_.out (by kernel_rfl)) (fun _ _ _ h => h) (Or.inl ⟨by rfl, ?_⟩) ?_ ?_
                rotate_left
                · intro w'
                  go_simp
                  with_reducible rfl
                rotate_left
                · simp only [Act.put, List.setIfInBounds_toArray, List.set_cons_zero, List.set_cons_succ, i64_w, i32_w]
                  rfl
                refine pure_ (i := 29) (N := some 71) (v := ?_) (a' := ?_) #[true, true, true, true, true, true, true, true, true, true, true, true, true, true, true, true, true, true, true, true, true, true, true, true, true, true, true, true, true, true, false, false] rfl rfl (any_of HT_.out (by kernel_rfl)) (fun _ _ _ h => h) (Or.inl ⟨by rfl, ?_⟩) ?_ ?_
                rotate_left
                · intro w'
                  go_simp
                  with_reducible rfl
                rotate_left
                · simp only [Act.put, List.setIfInBounds_toArray, List.set_cons_zero, List.set_cons_succ, i64_w, i32_w]
                  rfl
                refine pure_ (i := 30) (N := some 72) (v := ?_) (a' := ?_) #[true, true, true, true, true, true, true, true, true, true, true, true, true, true, true, true, true, true, true, true, true, true, true, true, true, true, true, true, true, true, true, false] rfl rfl (any_of HT_.out (by kernel_rfl)) (fun _ _ _ h => h) (Or.inl ⟨by rfl, ?_⟩) ?_ ?_
                rotate_left
                · intro w'
                  go_simp
                  with_reducible rfl
                rotate_left
                · simp only [Act.put, List.setIfInBounds_toArray, List.set_cons_zero, List.set_cons_succ, i64_w, i32_w]
                  rfl
                refine pure_ (i := 31) (N := some 0) (v := ?_) (a' := ?_) #[true, true, true, true, true, true, true, true, true, true, true, true, true, true, true, true, true, true, true, true, true, true, true, true, true, true, true, true, true, true, true, true] rfl rfl (any_of HT_.out (by kernel_rfl)) (fun _ _ _ h => h) (Or.inl ⟨by rfl, ?_⟩) ?_ ?_
                rotate_left
                · intro w'
                  go_simp
                  with_reducible rfl
                rotate_left
                · simp only [Act.put, List.setIfInBounds_toArray, List.set_cons_zero, List.set_cons_succ, i64_w, i32_w]
                  rfl
                refine done_ (done_of HT_.out (by kernel_rfl)) ?_
                try go_wp2
                go_ret
                exact ⟨by first | rfl | (simp [errW_none, errW_some] <;> rfl) | (simp [*, errW_none, errW_some] <;> rfl), by repeat (first | (with_reducible first | exact HB.out | apply below_alloc | apply pw_below_drewN | apply below_drew1 | refine below_set ?_ GE143.out | refine below_set ?_ GE157.out | refine below_set ?_ GE168.out) | exact HB.out)⟩
              · replace c18 := Bool.eq_false_iff.mpr c18
                subst c18
                have H1 : (some false) = some r := by rw [if_neg (show ¬ (false = true) by decide)] at H; exact H
                clear H
                have H := H1
                clear H1
                obtain rfl := Option.some.inj H
                exact absurd hr Bool.false_ne_true
            · rw [if_neg c17] at H
              have c17b0 : (t172 == 3) = false := beq_eq_false_iff_ne.mpr c17
              have c17b1 : (t172 != 3) = true := bne_iff_ne.mpr c17
              obtain rfl := Option.some.inj H
              exact absurd hr Bool.false_ne_true
          · rw [if_neg c16] at H
            have c16b0 : (t167 == 0) = false := beq_eq_false_iff_ne.mpr c16
            have c16b1 : (t167 != 0) = true := bne_iff_ne.mpr c16
            obtain rfl := Option.some.inj H
            exact absurd hr Bool.false_ne_true
        · rw [if_neg c15] at H
          have c15b0 : (t164 == 0 && (t165 == 0 && (t166.toList == ([] : List UInt8)))) = false := by simpa using c15
          have c15b9 : (t164 == 0 && (t165 == 0 && t166.toList.isEmpty)) = false := by rw [show t166.toList.isEmpty = (t166.toList == ([] : List UInt8)) from by cases t166.toList <;> rfl]; exact c15b0
          (try (have c15b1 : decide (t164 = 0 && (t165 == 0 && (t166.toList == ([] : List UInt8)))) = false := by simpa using c15))
          (try (have c15b2 : (t164 == 0 && (t165 == 0 && (t166.toList == ([] : List UInt8)))) = false := by simpa using c15))
          (try (have c15b3 : ¬ (t164 = 0 && (t165 == 0 && (t166.toList == ([] : List UInt8)))) := by simpa using c15))
          clear c15
          obtain rfl := Option.some.inj H
          exact absurd hr Bool.false_ne_true
      · rw [if_neg c14] at H
        have c14b0 : (t156 == 0) = false := beq_eq_false_iff_ne.mpr c14
        have c14b1 : (t156 != 0) = true := bne_iff_ne.mpr c14
        obtain rfl := Option.some.inj H
        exact absurd hr Bool.false_ne_true
    · rw [if_neg c13] at H
      have c13b0 : (t153 == t179 && (t154 == t180 && (t155.toList == t181.toList))) = false := by simpa using c13
      (try (have c13b1 : decide (t153 = t179 && (t154 == t180 && (t155.toList == t181.toList))) = false := by simpa using c13))
      (try (have c13b2 : (t153 == t179 && (t154 == t180 && (t155.toList == t181.toList))) = false := by simpa using c13))
      (try (have c13b3 : ¬ (t153 = t179 && (t154 == t180 && (t155.toList == t181.toList))) := by simpa using c13))
      clear c13
      obtain rfl := Option.some.inj H
      exact absurd hr Bool.false_ne_true
  · rw [if_neg c11] at H
    have c11b0 : (t142 == 31) = false := beq_eq_false_iff_ne.mpr c11
    have c11b1 : (t142 != 31) = true := bne_iff_ne.mpr c11
    obtain rfl := Option.some.inj H
    exact absurd hr Bool.false_ne_true
/-! ### hasplaw03_speaks: what it answers at last -/
def hasplaw03_speaks.f : Option Bool := some true
theorem hasplaw03_speaks.calls (r : Bool) (w : World) (h : hasplaw03_speaks.f = some r) :
    Calls Try.prog 9 #[] w fun e w' => e = .returned (.bool r) ∧ Below w.heap.size w w' := by
  obtain rfl := Option.some.inj h
  exact hasplaw03_speaksG.calls 19 true w (by decide +kernel) rfl
/-! ### hasplaw03_ArithNames: function 3 -/
def hasplaw03_ArithNames.f  : Option (Bool) := (hasplaw03_speaks.f).bind fun t130 => (if t130 = true then (some true) else (some false))
set_option maxHeartbeats 8000000 in
set_option maxRecDepth 100000 in
theorem hasplaw03_ArithNames.calls  (r : Bool) (w : World) (h : hasplaw03_ArithNames.f  = some r) :
    Calls Try.prog 3 #[] w fun e w' => e = .returned (.bool r) ∧ Below w.heap.size w w' := by
  have HB := Aside0.mk (Below.refl w.heap.size w)
  have H : ((hasplaw03_speaks.f).bind fun t130 => (if t130 = true then (some true) else (some false))) = some r := h
  clear h
  replace H := Option.bind_eq_some_iff.mp H
  obtain ⟨t130, A10, H⟩ := H
  replace H : (if t130 = true then (some true) else (some false)) = some r := H
  have A1 := Aside0.mk A10
  clear A10
  by_cases c2 : t130 = true
  · subst c2
    have H1 : (some true) = some r := by rw [if_pos rfl] at H; exact H
    clear H
    have H := H1
    clear H1
    obtain rfl := Option.some.inj H
    go_enter Try.func3, Try.ntmps3
    go_wp2_with (first | ((with_reducible refine gate_callee (f := 9) rfl ?_); refine goesL_ (some 1) rfl rfl Try.func9 (by kernel_rfl) rfl #[] rfl (by (try simp only [List.map_toArray, List.map_cons, List.map_nil]); first | done | rfl | (simp only [List.length_drop, List.length_take]; rfl)) ?_; (with_reducible refine (hasplaw03_speaks.calls  true _ A1.out).mono ?_); rintro e w3 ⟨rfl, hb⟩; refine ⟨_, rfl, ?_⟩; have n0_ := Aside0.mk (below_step (by repeat (first | (with_reducible first | exact HB.out | apply below_alloc | apply pw_below_drewN | apply below_drew1) | exact HB.out)) hb); clear HB; have HB := n0_; clear n0_; (try clear hb); (try clear hb2); (try clear hk); (try clear hi)))
    go_ret
    exact ⟨by first | rfl | (simp [errW_none, errW_some] <;> rfl) | (simp [*, errW_none, errW_some] <;> rfl), by repeat (first | (with_reducible first | exact HB.out | apply below_alloc | apply pw_below_drewN | apply below_drew1) | exact HB.out)⟩
  · replace c2 := Bool.eq_false_iff.mpr c2
    subst c2
    have H1 : (some false) = some r := by rw [if_neg (show ¬ (false = true) by decide)] at H; exact H
    clear H
    have H := H1
    clear H1
    obtain rfl := Option.some.inj H
    go_enter Try.func3, Try.ntmps3
    go_wp2_with (first | ((with_reducible refine gate_callee (f := 9) rfl ?_); refine goesL_ (some 1) rfl rfl Try.func9 (by kernel_rfl) rfl #[] rfl (by (try simp only [List.map_toArray, List.map_cons, List.map_nil]); first | done | rfl | (simp only [List.length_drop, List.length_take]; rfl)) ?_; (with_reducible refine (hasplaw03_speaks.calls  false _ A1.out).mono ?_); rintro e w4 ⟨rfl, hb⟩; refine ⟨_, rfl, ?_⟩; have n0_ := Aside0.mk (below_step (by repeat (first | (with_reducible first | exact HB.out | apply below_alloc | apply pw_below_drewN | apply below_drew1) | exact HB.out)) hb); clear HB; have HB := n0_; clear n0_; (try clear hb); (try clear hb2); (try clear hk); (try clear hi)))
    go_ret
    exact ⟨by first | rfl | (simp [errW_none, errW_some] <;> rfl) | (simp [*, errW_none, errW_some] <;> rfl), by repeat (first | (with_reducible first | exact HB.out | apply below_alloc | apply pw_below_drewN | apply below_drew1) | exact HB.out)⟩
/-- THE ONE PURE STATEMENT of hasplaw03_ArithNames: yours. -/
def hasplaw03_ArithNames.Pure : Prop := hasplaw03_ArithNames.f  = some true
theorem hasplaw03_ArithNames.walk (P : hasplaw03_ArithNames.Pure)  (w : World)  :
    Calls Try.prog 3 #[] w fun e w' => e = .returned (.bool true) ∧ Below w.heap.size w w' := by
  have h := P  
  refine (hasplaw03_ArithNames.calls  true w h).mono ?_
  rintro e w' ⟨rfl, hd⟩
  exact ⟨rfl, hd⟩
end Go.Proofs.Ytbdengnadgofmaa.V
