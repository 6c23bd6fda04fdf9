import Derived.Test.YtbdengnadgofmaaZdVx0
namespace Go.Proofs.Ytbdengnadgofmaa.V
open Go.RowKit Go.Proofs.YtbdengnadgofmaaW.PrintWords Go.Proofs.YtbdengnadgofmaaW.PrintLast Go.Proofs.YtbdengnadgofmaaW.PrintMore
attribute [local go_sem] max2_int min2_int max_two min_two max_three min_three max_four min_four   -- for this text's walks alone
set_option linter.unusedVariables false
set_option linter.unusedSimpArgs false
/-! ### haspref03_mul: function 40 -/
def haspref03_mul.mid (x y : Int) : Int := IntKind.u64.wrap ((IntKind.u64.wrap ((x / 4294967296) * (Go.bits .and .u64 y 4294967295))) + (IntKind.u64.wrap ((Go.bits .and .u64 x 4294967295) * (y / 4294967296))))
def haspref03_mul.low (x y : Int) : Int := IntKind.u64.wrap ((Go.bits .and .u64 x 4294967295) * (Go.bits .and .u64 y 4294967295))
def haspref03_mul.n (x y : Int) : Int := IntKind.u64.wrap ((IntKind.u64.wrap (haspref03_mul.mid x y * 4294967296)) + haspref03_mul.low x y)
def haspref03_mul.g (below : Bool) (x y : Int) : Int × Bool :=
  if 0 < x / 4294967296 ∧ 0 < y / 4294967296 then (0, false)
  else if 0 < haspref03_mul.mid x y / 4294967296 then (0, false)
  else if haspref03_mul.n x y < haspref03_mul.low x y then (0, false)
  else if below then (wrap64 (IntKind.u64.wrap (-(haspref03_mul.n x y))), decide (haspref03_mul.n x y ≤ 9223372036854775808))
  else (wrap64 (haspref03_mul.n x y), decide (haspref03_mul.n x y < 9223372036854775808))
def haspref03_mul.ab (a : Int) : Int := if a < 0 then IntKind.u64.wrap (-(IntKind.u64.wrap a)) else IntKind.u64.wrap a
def haspref03_mul.f (a0 a1 : Int) : Option (Int × Bool) := some (haspref03_mul.g (decide (a0 < 0) != decide (a1 < 0)) (haspref03_mul.ab a0) (haspref03_mul.ab a1))
set_option maxHeartbeats 8000000 in
set_option maxRecDepth 100000 in
theorem haspref03_mul.walk (a b : Int) (w : World) :
    Calls Try.prog 40 #[.int .i64 a, .int .i64 b] w fun e w' => e = .returned (.tuple #[.int .i64 (haspref03_mul.g (decide (a < 0) != decide (b < 0)) (haspref03_mul.ab a) (haspref03_mul.ab b)).1, .bool (haspref03_mul.g (decide (a < 0) != decide (b < 0)) (haspref03_mul.ab a) (haspref03_mul.ab b)).2]) ∧ w = w' := by
  by_cases ha : a < 0
  · have ha1 : decide (a < 0) = true := decide_eq_true ha
    by_cases hb : b < 0
    · have hb1 : decide (b < 0) = true := decide_eq_true hb
      have ex : haspref03_mul.ab a = IntKind.u64.wrap (-(IntKind.u64.wrap a)) := if_pos ha
      have ey : haspref03_mul.ab b = IntKind.u64.wrap (-(IntKind.u64.wrap b)) := if_pos hb
      have EX := Lib.hid ex
      have EY := Lib.hid ey
      clear ex ey
      by_cases c1 : ((IntKind.u64.wrap (-(IntKind.u64.wrap a))) / 4294967296) > 0
      · have c1a : decide (((IntKind.u64.wrap (-(IntKind.u64.wrap a))) / 4294967296) > 0) = true := decide_eq_true c1
        by_cases c2 : ((IntKind.u64.wrap (-(IntKind.u64.wrap b))) / 4294967296) > 0
        · have c2a : decide (((IntKind.u64.wrap (-(IntKind.u64.wrap b))) / 4294967296) > 0) = true := decide_eq_true c2
          have hv : haspref03_mul.g (decide (a < 0) != decide (b < 0)) (haspref03_mul.ab a) (haspref03_mul.ab b) = (0, false) := by
            rw [EX.out, EY.out, ha1, hb1]
            unfold haspref03_mul.g
            rw [if_pos (show 0 < ((IntKind.u64.wrap (-(IntKind.u64.wrap a))) / 4294967296) ∧ 0 < ((IntKind.u64.wrap (-(IntKind.u64.wrap b))) / 4294967296) from ⟨c1, c2⟩)]
          rw [hv]
          clear hv
          go_enter Try.func40, Try.ntmps40
          go_wp2
          go_ret2
          exact ⟨rfl, rfl⟩
        · have c2a : decide (((IntKind.u64.wrap (-(IntKind.u64.wrap b))) / 4294967296) > 0) = false := decide_eq_false c2
          by_cases c3 : (IntKind.u64.wrap ((IntKind.u64.wrap (((IntKind.u64.wrap (-(IntKind.u64.wrap a))) / 4294967296) * (Go.bits .and .u64 (IntKind.u64.wrap (-(IntKind.u64.wrap b))) 4294967295))) + (IntKind.u64.wrap ((Go.bits .and .u64 (IntKind.u64.wrap (-(IntKind.u64.wrap a))) 4294967295) * ((IntKind.u64.wrap (-(IntKind.u64.wrap b))) / 4294967296))))) / 4294967296 > 0
          · have c3a : decide ((IntKind.u64.wrap ((IntKind.u64.wrap (((IntKind.u64.wrap (-(IntKind.u64.wrap a))) / 4294967296) * (Go.bits .and .u64 (IntKind.u64.wrap (-(IntKind.u64.wrap b))) 4294967295))) + (IntKind.u64.wrap ((Go.bits .and .u64 (IntKind.u64.wrap (-(IntKind.u64.wrap a))) 4294967295) * ((IntKind.u64.wrap (-(IntKind.u64.wrap b))) / 4294967296))))) / 4294967296 > 0) = true := decide_eq_true c3
            have hv : haspref03_mul.g (decide (a < 0) != decide (b < 0)) (haspref03_mul.ab a) (haspref03_mul.ab b) = (0, false) := by
              rw [EX.out, EY.out, ha1, hb1]
              unfold haspref03_mul.g
              rw [if_neg (show ¬ (0 < ((IntKind.u64.wrap (-(IntKind.u64.wrap a))) / 4294967296) ∧ 0 < ((IntKind.u64.wrap (-(IntKind.u64.wrap b))) / 4294967296)) from fun h => c2 h.2)]
              rw [if_pos (show 0 < haspref03_mul.mid (IntKind.u64.wrap (-(IntKind.u64.wrap a))) (IntKind.u64.wrap (-(IntKind.u64.wrap b))) / 4294967296 from c3)]
            rw [hv]
            clear hv
            go_enter Try.func40, Try.ntmps40
            go_wp2
            go_ret2
            exact ⟨rfl, rfl⟩
          · have c3a : decide ((IntKind.u64.wrap ((IntKind.u64.wrap (((IntKind.u64.wrap (-(IntKind.u64.wrap a))) / 4294967296) * (Go.bits .and .u64 (IntKind.u64.wrap (-(IntKind.u64.wrap b))) 4294967295))) + (IntKind.u64.wrap ((Go.bits .and .u64 (IntKind.u64.wrap (-(IntKind.u64.wrap a))) 4294967295) * ((IntKind.u64.wrap (-(IntKind.u64.wrap b))) / 4294967296))))) / 4294967296 > 0) = false := decide_eq_false c3
            by_cases c4 : IntKind.u64.wrap ((IntKind.u64.wrap ((IntKind.u64.wrap ((IntKind.u64.wrap (((IntKind.u64.wrap (-(IntKind.u64.wrap a))) / 4294967296) * (Go.bits .and .u64 (IntKind.u64.wrap (-(IntKind.u64.wrap b))) 4294967295))) + (IntKind.u64.wrap ((Go.bits .and .u64 (IntKind.u64.wrap (-(IntKind.u64.wrap a))) 4294967295) * ((IntKind.u64.wrap (-(IntKind.u64.wrap b))) / 4294967296))))) * 4294967296)) + (IntKind.u64.wrap ((Go.bits .and .u64 (IntKind.u64.wrap (-(IntKind.u64.wrap a))) 4294967295) * (Go.bits .and .u64 (IntKind.u64.wrap (-(IntKind.u64.wrap b))) 4294967295)))) < IntKind.u64.wrap ((Go.bits .and .u64 (IntKind.u64.wrap (-(IntKind.u64.wrap a))) 4294967295) * (Go.bits .and .u64 (IntKind.u64.wrap (-(IntKind.u64.wrap b))) 4294967295))
            · have c4a : decide (IntKind.u64.wrap ((IntKind.u64.wrap ((IntKind.u64.wrap ((IntKind.u64.wrap (((IntKind.u64.wrap (-(IntKind.u64.wrap a))) / 4294967296) * (Go.bits .and .u64 (IntKind.u64.wrap (-(IntKind.u64.wrap b))) 4294967295))) + (IntKind.u64.wrap ((Go.bits .and .u64 (IntKind.u64.wrap (-(IntKind.u64.wrap a))) 4294967295) * ((IntKind.u64.wrap (-(IntKind.u64.wrap b))) / 4294967296))))) * 4294967296)) + (IntKind.u64.wrap ((Go.bits .and .u64 (IntKind.u64.wrap (-(IntKind.u64.wrap a))) 4294967295) * (Go.bits .and .u64 (IntKind.u64.wrap (-(IntKind.u64.wrap b))) 4294967295)))) < IntKind.u64.wrap ((Go.bits .and .u64 (IntKind.u64.wrap (-(IntKind.u64.wrap a))) 4294967295) * (Go.bits .and .u64 (IntKind.u64.wrap (-(IntKind.u64.wrap b))) 4294967295))) = true := decide_eq_true c4
              have hv : haspref03_mul.g (decide (a < 0) != decide (b < 0)) (haspref03_mul.ab a) (haspref03_mul.ab b) = (0, false) := by
                rw [EX.out, EY.out, ha1, hb1]
                unfold haspref03_mul.g
                rw [if_neg (show ¬ (0 < ((IntKind.u64.wrap (-(IntKind.u64.wrap a))) / 4294967296) ∧ 0 < ((IntKind.u64.wrap (-(IntKind.u64.wrap b))) / 4294967296)) from fun h => c2 h.2)]
                rw [if_neg (show ¬ 0 < haspref03_mul.mid (IntKind.u64.wrap (-(IntKind.u64.wrap a))) (IntKind.u64.wrap (-(IntKind.u64.wrap b))) / 4294967296 from c3)]
                rw [if_pos (show haspref03_mul.n (IntKind.u64.wrap (-(IntKind.u64.wrap a))) (IntKind.u64.wrap (-(IntKind.u64.wrap b))) < haspref03_mul.low (IntKind.u64.wrap (-(IntKind.u64.wrap a))) (IntKind.u64.wrap (-(IntKind.u64.wrap b))) from c4)]
              rw [hv]
              clear hv
              go_enter Try.func40, Try.ntmps40
              go_wp2
              go_ret2
              exact ⟨rfl, rfl⟩
            · have c4a : decide (IntKind.u64.wrap ((IntKind.u64.wrap ((IntKind.u64.wrap ((IntKind.u64.wrap (((IntKind.u64.wrap (-(IntKind.u64.wrap a))) / 4294967296) * (Go.bits .and .u64 (IntKind.u64.wrap (-(IntKind.u64.wrap b))) 4294967295))) + (IntKind.u64.wrap ((Go.bits .and .u64 (IntKind.u64.wrap (-(IntKind.u64.wrap a))) 4294967295) * ((IntKind.u64.wrap (-(IntKind.u64.wrap b))) / 4294967296))))) * 4294967296)) + (IntKind.u64.wrap ((Go.bits .and .u64 (IntKind.u64.wrap (-(IntKind.u64.wrap a))) 4294967295) * (Go.bits .and .u64 (IntKind.u64.wrap (-(IntKind.u64.wrap b))) 4294967295)))) < IntKind.u64.wrap ((Go.bits .and .u64 (IntKind.u64.wrap (-(IntKind.u64.wrap a))) 4294967295) * (Go.bits .and .u64 (IntKind.u64.wrap (-(IntKind.u64.wrap b))) 4294967295))) = false := decide_eq_false c4
              have hv : haspref03_mul.g (decide (a < 0) != decide (b < 0)) (haspref03_mul.ab a) (haspref03_mul.ab b) = (wrap64 (IntKind.u64.wrap ((IntKind.u64.wrap ((IntKind.u64.wrap ((IntKind.u64.wrap (((IntKind.u64.wrap (-(IntKind.u64.wrap a))) / 4294967296) * (Go.bits .and .u64 (IntKind.u64.wrap (-(IntKind.u64.wrap b))) 4294967295))) + (IntKind.u64.wrap ((Go.bits .and .u64 (IntKind.u64.wrap (-(IntKind.u64.wrap a))) 4294967295) * ((IntKind.u64.wrap (-(IntKind.u64.wrap b))) / 4294967296))))) * 4294967296)) + (IntKind.u64.wrap ((Go.bits .and .u64 (IntKind.u64.wrap (-(IntKind.u64.wrap a))) 4294967295) * (Go.bits .and .u64 (IntKind.u64.wrap (-(IntKind.u64.wrap b))) 4294967295))))), decide (IntKind.u64.wrap ((IntKind.u64.wrap ((IntKind.u64.wrap ((IntKind.u64.wrap (((IntKind.u64.wrap (-(IntKind.u64.wrap a))) / 4294967296) * (Go.bits .and .u64 (IntKind.u64.wrap (-(IntKind.u64.wrap b))) 4294967295))) + (IntKind.u64.wrap ((Go.bits .and .u64 (IntKind.u64.wrap (-(IntKind.u64.wrap a))) 4294967295) * ((IntKind.u64.wrap (-(IntKind.u64.wrap b))) / 4294967296))))) * 4294967296)) + (IntKind.u64.wrap ((Go.bits .and .u64 (IntKind.u64.wrap (-(IntKind.u64.wrap a))) 4294967295) * (Go.bits .and .u64 (IntKind.u64.wrap (-(IntKind.u64.wrap b))) 4294967295)))) < 9223372036854775808)) := by
                rw [EX.out, EY.out, ha1, hb1]
                unfold haspref03_mul.g
                rw [if_neg (show ¬ (0 < ((IntKind.u64.wrap (-(IntKind.u64.wrap a))) / 4294967296) ∧ 0 < ((IntKind.u64.wrap (-(IntKind.u64.wrap b))) / 4294967296)) from fun h => c2 h.2)]
                rw [if_neg (show ¬ 0 < haspref03_mul.mid (IntKind.u64.wrap (-(IntKind.u64.wrap a))) (IntKind.u64.wrap (-(IntKind.u64.wrap b))) / 4294967296 from c3)]
                rw [if_neg (show ¬ haspref03_mul.n (IntKind.u64.wrap (-(IntKind.u64.wrap a))) (IntKind.u64.wrap (-(IntKind.u64.wrap b))) < haspref03_mul.low (IntKind.u64.wrap (-(IntKind.u64.wrap a))) (IntKind.u64.wrap (-(IntKind.u64.wrap b))) from c4)]
                rw [if_neg (by decide)]
                rfl
              rw [hv]
              clear hv
              go_enter Try.func40, Try.ntmps40
              go_wp2
              go_ret2
              exact ⟨rfl, rfl⟩
      · have c1a : decide (((IntKind.u64.wrap (-(IntKind.u64.wrap a))) / 4294967296) > 0) = false := decide_eq_false c1
        by_cases c3 : (IntKind.u64.wrap ((IntKind.u64.wrap (((IntKind.u64.wrap (-(IntKind.u64.wrap a))) / 4294967296) * (Go.bits .and .u64 (IntKind.u64.wrap (-(IntKind.u64.wrap b))) 4294967295))) + (IntKind.u64.wrap ((Go.bits .and .u64 (IntKind.u64.wrap (-(IntKind.u64.wrap a))) 4294967295) * ((IntKind.u64.wrap (-(IntKind.u64.wrap b))) / 4294967296))))) / 4294967296 > 0
        · have c3a : decide ((IntKind.u64.wrap ((IntKind.u64.wrap (((IntKind.u64.wrap (-(IntKind.u64.wrap a))) / 4294967296) * (Go.bits .and .u64 (IntKind.u64.wrap (-(IntKind.u64.wrap b))) 4294967295))) + (IntKind.u64.wrap ((Go.bits .and .u64 (IntKind.u64.wrap (-(IntKind.u64.wrap a))) 4294967295) * ((IntKind.u64.wrap (-(IntKind.u64.wrap b))) / 4294967296))))) / 4294967296 > 0) = true := decide_eq_true c3
          have hv : haspref03_mul.g (decide (a < 0) != decide (b < 0)) (haspref03_mul.ab a) (haspref03_mul.ab b) = (0, false) := by
            rw [EX.out, EY.out, ha1, hb1]
            unfold haspref03_mul.g
            rw [if_neg (show ¬ (0 < ((IntKind.u64.wrap (-(IntKind.u64.wrap a))) / 4294967296) ∧ 0 < ((IntKind.u64.wrap (-(IntKind.u64.wrap b))) / 4294967296)) from fun h => c1 h.1)]
            rw [if_pos (show 0 < haspref03_mul.mid (IntKind.u64.wrap (-(IntKind.u64.wrap a))) (IntKind.u64.wrap (-(IntKind.u64.wrap b))) / 4294967296 from c3)]
          rw [hv]
          clear hv
          go_enter Try.func40, Try.ntmps40
          go_wp2
          go_ret2
          exact ⟨rfl, rfl⟩
        · have c3a : decide ((IntKind.u64.wrap ((IntKind.u64.wrap (((IntKind.u64.wrap (-(IntKind.u64.wrap a))) / 4294967296) * (Go.bits .and .u64 (IntKind.u64.wrap (-(IntKind.u64.wrap b))) 4294967295))) + (IntKind.u64.wrap ((Go.bits .and .u64 (IntKind.u64.wrap (-(IntKind.u64.wrap a))) 4294967295) * ((IntKind.u64.wrap (-(IntKind.u64.wrap b))) / 4294967296))))) / 4294967296 > 0) = false := decide_eq_false c3
          by_cases c4 : IntKind.u64.wrap ((IntKind.u64.wrap ((IntKind.u64.wrap ((IntKind.u64.wrap (((IntKind.u64.wrap (-(IntKind.u64.wrap a))) / 4294967296) * (Go.bits .and .u64 (IntKind.u64.wrap (-(IntKind.u64.wrap b))) 4294967295))) + (IntKind.u64.wrap ((Go.bits .and .u64 (IntKind.u64.wrap (-(IntKind.u64.wrap a))) 4294967295) * ((IntKind.u64.wrap (-(IntKind.u64.wrap b))) / 4294967296))))) * 4294967296)) + (IntKind.u64.wrap ((Go.bits .and .u64 (IntKind.u64.wrap (-(IntKind.u64.wrap a))) 4294967295) * (Go.bits .and .u64 (IntKind.u64.wrap (-(IntKind.u64.wrap b))) 4294967295)))) < IntKind.u64.wrap ((Go.bits .and .u64 (IntKind.u64.wrap (-(IntKind.u64.wrap a))) 4294967295) * (Go.bits .and .u64 (IntKind.u64.wrap (-(IntKind.u64.wrap b))) 4294967295))
          · have c4a : decide (IntKind.u64.wrap ((IntKind.u64.wrap ((IntKind.u64.wrap ((IntKind.u64.wrap (((IntKind.u64.wrap (-(IntKind.u64.wrap a))) / 4294967296) * (Go.bits .and .u64 (IntKind.u64.wrap (-(IntKind.u64.wrap b))) 4294967295))) + (IntKind.u64.wrap ((Go.bits .and .u64 (IntKind.u64.wrap (-(IntKind.u64.wrap a))) 4294967295) * ((IntKind.u64.wrap (-(IntKind.u64.wrap b))) / 4294967296))))) * 4294967296)) + (IntKind.u64.wrap ((Go.bits .and .u64 (IntKind.u64.wrap (-(IntKind.u64.wrap a))) 4294967295) * (Go.bits .and .u64 (IntKind.u64.wrap (-(IntKind.u64.wrap b))) 4294967295)))) < IntKind.u64.wrap ((Go.bits .and .u64 (IntKind.u64.wrap (-(IntKind.u64.wrap a))) 4294967295) * (Go.bits .and .u64 (IntKind.u64.wrap (-(IntKind.u64.wrap b))) 4294967295))) = true := decide_eq_true c4
            have hv : haspref03_mul.g (decide (a < 0) != decide (b < 0)) (haspref03_mul.ab a) (haspref03_mul.ab b) = (0, false) := by
              rw [EX.out, EY.out, ha1, hb1]
              unfold haspref03_mul.g
              rw [if_neg (show ¬ (0 < ((IntKind.u64.wrap (-(IntKind.u64.wrap a))) / 4294967296) ∧ 0 < ((IntKind.u64.wrap (-(IntKind.u64.wrap b))) / 4294967296)) from fun h => c1 h.1)]
              rw [if_neg (show ¬ 0 < haspref03_mul.mid (IntKind.u64.wrap (-(IntKind.u64.wrap a))) (IntKind.u64.wrap (-(IntKind.u64.wrap b))) / 4294967296 from c3)]
              rw [if_pos (show haspref03_mul.n (IntKind.u64.wrap (-(IntKind.u64.wrap a))) (IntKind.u64.wrap (-(IntKind.u64.wrap b))) < haspref03_mul.low (IntKind.u64.wrap (-(IntKind.u64.wrap a))) (IntKind.u64.wrap (-(IntKind.u64.wrap b))) from c4)]
            rw [hv]
            clear hv
            go_enter Try.func40, Try.ntmps40
            go_wp2
            go_ret2
            exact ⟨rfl, rfl⟩
          · have c4a : decide (IntKind.u64.wrap ((IntKind.u64.wrap ((IntKind.u64.wrap ((IntKind.u64.wrap (((IntKind.u64.wrap (-(IntKind.u64.wrap a))) / 4294967296) * (Go.bits .and .u64 (IntKind.u64.wrap (-(IntKind.u64.wrap b))) 4294967295))) + (IntKind.u64.wrap ((Go.bits .and .u64 (IntKind.u64.wrap (-(IntKind.u64.wrap a))) 4294967295) * ((IntKind.u64.wrap (-(IntKind.u64.wrap b))) / 4294967296))))) * 4294967296)) + (IntKind.u64.wrap ((Go.bits .and .u64 (IntKind.u64.wrap (-(IntKind.u64.wrap a))) 4294967295) * (Go.bits .and .u64 (IntKind.u64.wrap (-(IntKind.u64.wrap b))) 4294967295)))) < IntKind.u64.wrap ((Go.bits .and .u64 (IntKind.u64.wrap (-(IntKind.u64.wrap a))) 4294967295) * (Go.bits .and .u64 (IntKind.u64.wrap (-(IntKind.u64.wrap b))) 4294967295))) = false := decide_eq_false c4
            have hv : haspref03_mul.g (decide (a < 0) != decide (b < 0)) (haspref03_mul.ab a) (haspref03_mul.ab b) = (wrap64 (IntKind.u64.wrap ((IntKind.u64.wrap ((IntKind.u64.wrap ((IntKind.u64.wrap (((IntKind.u64.wrap (-(IntKind.u64.wrap a))) / 4294967296) * (Go.bits .and .u64 (IntKind.u64.wrap (-(IntKind.u64.wrap b))) 4294967295))) + (IntKind.u64.wrap ((Go.bits .and .u64 (IntKind.u64.wrap (-(IntKind.u64.wrap a))) 4294967295) * ((IntKind.u64.wrap (-(IntKind.u64.wrap b))) / 4294967296))))) * 4294967296)) + (IntKind.u64.wrap ((Go.bits .and .u64 (IntKind.u64.wrap (-(IntKind.u64.wrap a))) 4294967295) * (Go.bits .and .u64 (IntKind.u64.wrap (-(IntKind.u64.wrap b))) 4294967295))))), decide (IntKind.u64.wrap ((IntKind.u64.wrap ((IntKind.u64.wrap ((IntKind.u64.wrap (((IntKind.u64.wrap (-(IntKind.u64.wrap a))) / 4294967296) * (Go.bits .and .u64 (IntKind.u64.wrap (-(IntKind.u64.wrap b))) 4294967295))) + (IntKind.u64.wrap ((Go.bits .and .u64 (IntKind.u64.wrap (-(IntKind.u64.wrap a))) 4294967295) * ((IntKind.u64.wrap (-(IntKind.u64.wrap b))) / 4294967296))))) * 4294967296)) + (IntKind.u64.wrap ((Go.bits .and .u64 (IntKind.u64.wrap (-(IntKind.u64.wrap a))) 4294967295) * (Go.bits .and .u64 (IntKind.u64.wrap (-(IntKind.u64.wrap b))) 4294967295)))) < 9223372036854775808)) := by
              rw [EX.out, EY.out, ha1, hb1]
              unfold haspref03_mul.g
              rw [if_neg (show ¬ (0 < ((IntKind.u64.wrap (-(IntKind.u64.wrap a))) / 4294967296) ∧ 0 < ((IntKind.u64.wrap (-(IntKind.u64.wrap b))) / 4294967296)) from fun h => c1 h.1)]
              rw [if_neg (show ¬ 0 < haspref03_mul.mid (IntKind.u64.wrap (-(IntKind.u64.wrap a))) (IntKind.u64.wrap (-(IntKind.u64.wrap b))) / 4294967296 from c3)]
              rw [if_neg (show ¬ haspref03_mul.n (IntKind.u64.wrap (-(IntKind.u64.wrap a))) (IntKind.u64.wrap (-(IntKind.u64.wrap b))) < haspref03_mul.low (IntKind.u64.wrap (-(IntKind.u64.wrap a))) (IntKind.u64.wrap (-(IntKind.u64.wrap b))) from c4)]
              rw [if_neg (by decide)]
              rfl
            rw [hv]
            clear hv
            go_enter Try.func40, Try.ntmps40
            go_wp2
            go_ret2
            exact ⟨rfl, rfl⟩
    · have hb1 : decide (b < 0) = false := decide_eq_false hb
      have ex : haspref03_mul.ab a = IntKind.u64.wrap (-(IntKind.u64.wrap a)) := if_pos ha
      have ey : haspref03_mul.ab b = IntKind.u64.wrap b := if_neg hb
      have EX := Lib.hid ex
      have EY := Lib.hid ey
      clear ex ey
      by_cases c1 : ((IntKind.u64.wrap (-(IntKind.u64.wrap a))) / 4294967296) > 0
      · have c1a : decide (((IntKind.u64.wrap (-(IntKind.u64.wrap a))) / 4294967296) > 0) = true := decide_eq_true c1
        by_cases c2 : ((IntKind.u64.wrap b) / 4294967296) > 0
        · have c2a : decide (((IntKind.u64.wrap b) / 4294967296) > 0) = true := decide_eq_true c2
          have hv : haspref03_mul.g (decide (a < 0) != decide (b < 0)) (haspref03_mul.ab a) (haspref03_mul.ab b) = (0, false) := by
            rw [EX.out, EY.out, ha1, hb1]
            unfold haspref03_mul.g
            rw [if_pos (show 0 < ((IntKind.u64.wrap (-(IntKind.u64.wrap a))) / 4294967296) ∧ 0 < ((IntKind.u64.wrap b) / 4294967296) from ⟨c1, c2⟩)]
          rw [hv]
          clear hv
          go_enter Try.func40, Try.ntmps40
          go_wp2
          go_ret2
          exact ⟨rfl, rfl⟩
        · have c2a : decide (((IntKind.u64.wrap b) / 4294967296) > 0) = false := decide_eq_false c2
          by_cases c3 : (IntKind.u64.wrap ((IntKind.u64.wrap (((IntKind.u64.wrap (-(IntKind.u64.wrap a))) / 4294967296) * (Go.bits .and .u64 (IntKind.u64.wrap b) 4294967295))) + (IntKind.u64.wrap ((Go.bits .and .u64 (IntKind.u64.wrap (-(IntKind.u64.wrap a))) 4294967295) * ((IntKind.u64.wrap b) / 4294967296))))) / 4294967296 > 0
          · have c3a : decide ((IntKind.u64.wrap ((IntKind.u64.wrap (((IntKind.u64.wrap (-(IntKind.u64.wrap a))) / 4294967296) * (Go.bits .and .u64 (IntKind.u64.wrap b) 4294967295))) + (IntKind.u64.wrap ((Go.bits .and .u64 (IntKind.u64.wrap (-(IntKind.u64.wrap a))) 4294967295) * ((IntKind.u64.wrap b) / 4294967296))))) / 4294967296 > 0) = true := decide_eq_true c3
            have hv : haspref03_mul.g (decide (a < 0) != decide (b < 0)) (haspref03_mul.ab a) (haspref03_mul.ab b) = (0, false) := by
              rw [EX.out, EY.out, ha1, hb1]
              unfold haspref03_mul.g
              rw [if_neg (show ¬ (0 < ((IntKind.u64.wrap (-(IntKind.u64.wrap a))) / 4294967296) ∧ 0 < ((IntKind.u64.wrap b) / 4294967296)) from fun h => c2 h.2)]
              rw [if_pos (show 0 < haspref03_mul.mid (IntKind.u64.wrap (-(IntKind.u64.wrap a))) (IntKind.u64.wrap b) / 4294967296 from c3)]
            rw [hv]
            clear hv
            go_enter Try.func40, Try.ntmps40
            go_wp2
            go_ret2
            exact ⟨rfl, rfl⟩
          · have c3a : decide ((IntKind.u64.wrap ((IntKind.u64.wrap (((IntKind.u64.wrap (-(IntKind.u64.wrap a))) / 4294967296) * (Go.bits .and .u64 (IntKind.u64.wrap b) 4294967295))) + (IntKind.u64.wrap ((Go.bits .and .u64 (IntKind.u64.wrap (-(IntKind.u64.wrap a))) 4294967295) * ((IntKind.u64.wrap b) / 4294967296))))) / 4294967296 > 0) = false := decide_eq_false c3
            by_cases c4 : IntKind.u64.wrap ((IntKind.u64.wrap ((IntKind.u64.wrap ((IntKind.u64.wrap (((IntKind.u64.wrap (-(IntKind.u64.wrap a))) / 4294967296) * (Go.bits .and .u64 (IntKind.u64.wrap b) 4294967295))) + (IntKind.u64.wrap ((Go.bits .and .u64 (IntKind.u64.wrap (-(IntKind.u64.wrap a))) 4294967295) * ((IntKind.u64.wrap b) / 4294967296))))) * 4294967296)) + (IntKind.u64.wrap ((Go.bits .and .u64 (IntKind.u64.wrap (-(IntKind.u64.wrap a))) 4294967295) * (Go.bits .and .u64 (IntKind.u64.wrap b) 4294967295)))) < IntKind.u64.wrap ((Go.bits .and .u64 (IntKind.u64.wrap (-(IntKind.u64.wrap a))) 4294967295) * (Go.bits .and .u64 (IntKind.u64.wrap b) 4294967295))
            · have c4a : decide (IntKind.u64.wrap ((IntKind.u64.wrap ((IntKind.u64.wrap ((IntKind.u64.wrap (((IntKind.u64.wrap (-(IntKind.u64.wrap a))) / 4294967296) * (Go.bits .and .u64 (IntKind.u64.wrap b) 4294967295))) + (IntKind.u64.wrap ((Go.bits .and .u64 (IntKind.u64.wrap (-(IntKind.u64.wrap a))) 4294967295) * ((IntKind.u64.wrap b) / 4294967296))))) * 4294967296)) + (IntKind.u64.wrap ((Go.bits .and .u64 (IntKind.u64.wrap (-(IntKind.u64.wrap a))) 4294967295) * (Go.bits .and .u64 (IntKind.u64.wrap b) 4294967295)))) < IntKind.u64.wrap ((Go.bits .and .u64 (IntKind.u64.wrap (-(IntKind.u64.wrap a))) 4294967295) * (Go.bits .and .u64 (IntKind.u64.wrap b) 4294967295))) = true := decide_eq_true c4
              have hv : haspref03_mul.g (decide (a < 0) != decide (b < 0)) (haspref03_mul.ab a) (haspref03_mul.ab b) = (0, false) := by
                rw [EX.out, EY.out, ha1, hb1]
                unfold haspref03_mul.g
                rw [if_neg (show ¬ (0 < ((IntKind.u64.wrap (-(IntKind.u64.wrap a))) / 4294967296) ∧ 0 < ((IntKind.u64.wrap b) / 4294967296)) from fun h => c2 h.2)]
                rw [if_neg (show ¬ 0 < haspref03_mul.mid (IntKind.u64.wrap (-(IntKind.u64.wrap a))) (IntKind.u64.wrap b) / 4294967296 from c3)]
                rw [if_pos (show haspref03_mul.n (IntKind.u64.wrap (-(IntKind.u64.wrap a))) (IntKind.u64.wrap b) < haspref03_mul.low (IntKind.u64.wrap (-(IntKind.u64.wrap a))) (IntKind.u64.wrap b) from c4)]
              rw [hv]
              clear hv
              go_enter Try.func40, Try.ntmps40
              go_wp2
              go_ret2
              exact ⟨rfl, rfl⟩
            · have c4a : decide (IntKind.u64.wrap ((IntKind.u64.wrap ((IntKind.u64.wrap ((IntKind.u64.wrap (((IntKind.u64.wrap (-(IntKind.u64.wrap a))) / 4294967296) * (Go.bits .and .u64 (IntKind.u64.wrap b) 4294967295))) + (IntKind.u64.wrap ((Go.bits .and .u64 (IntKind.u64.wrap (-(IntKind.u64.wrap a))) 4294967295) * ((IntKind.u64.wrap b) / 4294967296))))) * 4294967296)) + (IntKind.u64.wrap ((Go.bits .and .u64 (IntKind.u64.wrap (-(IntKind.u64.wrap a))) 4294967295) * (Go.bits .and .u64 (IntKind.u64.wrap b) 4294967295)))) < IntKind.u64.wrap ((Go.bits .and .u64 (IntKind.u64.wrap (-(IntKind.u64.wrap a))) 4294967295) * (Go.bits .and .u64 (IntKind.u64.wrap b) 4294967295))) = false := decide_eq_false c4
              have hv : haspref03_mul.g (decide (a < 0) != decide (b < 0)) (haspref03_mul.ab a) (haspref03_mul.ab b) = (wrap64 (IntKind.u64.wrap (-(IntKind.u64.wrap ((IntKind.u64.wrap ((IntKind.u64.wrap ((IntKind.u64.wrap (((IntKind.u64.wrap (-(IntKind.u64.wrap a))) / 4294967296) * (Go.bits .and .u64 (IntKind.u64.wrap b) 4294967295))) + (IntKind.u64.wrap ((Go.bits .and .u64 (IntKind.u64.wrap (-(IntKind.u64.wrap a))) 4294967295) * ((IntKind.u64.wrap b) / 4294967296))))) * 4294967296)) + (IntKind.u64.wrap ((Go.bits .and .u64 (IntKind.u64.wrap (-(IntKind.u64.wrap a))) 4294967295) * (Go.bits .and .u64 (IntKind.u64.wrap b) 4294967295))))))), decide (IntKind.u64.wrap ((IntKind.u64.wrap ((IntKind.u64.wrap ((IntKind.u64.wrap (((IntKind.u64.wrap (-(IntKind.u64.wrap a))) / 4294967296) * (Go.bits .and .u64 (IntKind.u64.wrap b) 4294967295))) + (IntKind.u64.wrap ((Go.bits .and .u64 (IntKind.u64.wrap (-(IntKind.u64.wrap a))) 4294967295) * ((IntKind.u64.wrap b) / 4294967296))))) * 4294967296)) + (IntKind.u64.wrap ((Go.bits .and .u64 (IntKind.u64.wrap (-(IntKind.u64.wrap a))) 4294967295) * (Go.bits .and .u64 (IntKind.u64.wrap b) 4294967295)))) ≤ 9223372036854775808)) := by
                rw [EX.out, EY.out, ha1, hb1]
                unfold haspref03_mul.g
                rw [if_neg (show ¬ (0 < ((IntKind.u64.wrap (-(IntKind.u64.wrap a))) / 4294967296) ∧ 0 < ((IntKind.u64.wrap b) / 4294967296)) from fun h => c2 h.2)]
                rw [if_neg (show ¬ 0 < haspref03_mul.mid (IntKind.u64.wrap (-(IntKind.u64.wrap a))) (IntKind.u64.wrap b) / 4294967296 from c3)]
                rw [if_neg (show ¬ haspref03_mul.n (IntKind.u64.wrap (-(IntKind.u64.wrap a))) (IntKind.u64.wrap b) < haspref03_mul.low (IntKind.u64.wrap (-(IntKind.u64.wrap a))) (IntKind.u64.wrap b) from c4)]
                rw [if_pos (by decide)]
                rfl
              rw [hv]
              clear hv
              go_enter Try.func40, Try.ntmps40
              go_wp2
              go_ret2
              exact ⟨rfl, rfl⟩
      · have c1a : decide (((IntKind.u64.wrap (-(IntKind.u64.wrap a))) / 4294967296) > 0) = false := decide_eq_false c1
        by_cases c3 : (IntKind.u64.wrap ((IntKind.u64.wrap (((IntKind.u64.wrap (-(IntKind.u64.wrap a))) / 4294967296) * (Go.bits .and .u64 (IntKind.u64.wrap b) 4294967295))) + (IntKind.u64.wrap ((Go.bits .and .u64 (IntKind.u64.wrap (-(IntKind.u64.wrap a))) 4294967295) * ((IntKind.u64.wrap b) / 4294967296))))) / 4294967296 > 0
        · have c3a : decide ((IntKind.u64.wrap ((IntKind.u64.wrap (((IntKind.u64.wrap (-(IntKind.u64.wrap a))) / 4294967296) * (Go.bits .and .u64 (IntKind.u64.wrap b) 4294967295))) + (IntKind.u64.wrap ((Go.bits .and .u64 (IntKind.u64.wrap (-(IntKind.u64.wrap a))) 4294967295) * ((IntKind.u64.wrap b) / 4294967296))))) / 4294967296 > 0) = true := decide_eq_true c3
          have hv : haspref03_mul.g (decide (a < 0) != decide (b < 0)) (haspref03_mul.ab a) (haspref03_mul.ab b) = (0, false) := by
            rw [EX.out, EY.out, ha1, hb1]
            unfold haspref03_mul.g
            rw [if_neg (show ¬ (0 < ((IntKind.u64.wrap (-(IntKind.u64.wrap a))) / 4294967296) ∧ 0 < ((IntKind.u64.wrap b) / 4294967296)) from fun h => c1 h.1)]
            rw [if_pos (show 0 < haspref03_mul.mid (IntKind.u64.wrap (-(IntKind.u64.wrap a))) (IntKind.u64.wrap b) / 4294967296 from c3)]
          rw [hv]
          clear hv
          go_enter Try.func40, Try.ntmps40
          go_wp2
          go_ret2
          exact ⟨rfl, rfl⟩
        · have c3a : decide ((IntKind.u64.wrap ((IntKind.u64.wrap (((IntKind.u64.wrap (-(IntKind.u64.wrap a))) / 4294967296) * (Go.bits .and .u64 (IntKind.u64.wrap b) 4294967295))) + (IntKind.u64.wrap ((Go.bits .and .u64 (IntKind.u64.wrap (-(IntKind.u64.wrap a))) 4294967295) * ((IntKind.u64.wrap b) / 4294967296))))) / 4294967296 > 0) = false := decide_eq_false c3
          by_cases c4 : IntKind.u64.wrap ((IntKind.u64.wrap ((IntKind.u64.wrap ((IntKind.u64.wrap (((IntKind.u64.wrap (-(IntKind.u64.wrap a))) / 4294967296) * (Go.bits .and .u64 (IntKind.u64.wrap b) 4294967295))) + (IntKind.u64.wrap ((Go.bits .and .u64 (IntKind.u64.wrap (-(IntKind.u64.wrap a))) 4294967295) * ((IntKind.u64.wrap b) / 4294967296))))) * 4294967296)) + (IntKind.u64.wrap ((Go.bits .and .u64 (IntKind.u64.wrap (-(IntKind.u64.wrap a))) 4294967295) * (Go.bits .and .u64 (IntKind.u64.wrap b) 4294967295)))) < IntKind.u64.wrap ((Go.bits .and .u64 (IntKind.u64.wrap (-(IntKind.u64.wrap a))) 4294967295) * (Go.bits .and .u64 (IntKind.u64.wrap b) 4294967295))
          · have c4a : decide (IntKind.u64.wrap ((IntKind.u64.wrap ((IntKind.u64.wrap ((IntKind.u64.wrap (((IntKind.u64.wrap (-(IntKind.u64.wrap a))) / 4294967296) * (Go.bits .and .u64 (IntKind.u64.wrap b) 4294967295))) + (IntKind.u64.wrap ((Go.bits .and .u64 (IntKind.u64.wrap (-(IntKind.u64.wrap a))) 4294967295) * ((IntKind.u64.wrap b) / 4294967296))))) * 4294967296)) + (IntKind.u64.wrap ((Go.bits .and .u64 (IntKind.u64.wrap (-(IntKind.u64.wrap a))) 4294967295) * (Go.bits .and .u64 (IntKind.u64.wrap b) 4294967295)))) < IntKind.u64.wrap ((Go.bits .and .u64 (IntKind.u64.wrap (-(IntKind.u64.wrap a))) 4294967295) * (Go.bits .and .u64 (IntKind.u64.wrap b) 4294967295))) = true := decide_eq_true c4
            have hv : haspref03_mul.g (decide (a < 0) != decide (b < 0)) (haspref03_mul.ab a) (haspref03_mul.ab b) = (0, false) := by
              rw [EX.out, EY.out, ha1, hb1]
              unfold haspref03_mul.g
              rw [if_neg (show ¬ (0 < ((IntKind.u64.wrap (-(IntKind.u64.wrap a))) / 4294967296) ∧ 0 < ((IntKind.u64.wrap b) / 4294967296)) from fun h => c1 h.1)]
              rw [if_neg (show ¬ 0 < haspref03_mul.mid (IntKind.u64.wrap (-(IntKind.u64.wrap a))) (IntKind.u64.wrap b) / 4294967296 from c3)]
              rw [if_pos (show haspref03_mul.n (IntKind.u64.wrap (-(IntKind.u64.wrap a))) (IntKind.u64.wrap b) < haspref03_mul.low (IntKind.u64.wrap (-(IntKind.u64.wrap a))) (IntKind.u64.wrap b) from c4)]
            rw [hv]
            clear hv
            go_enter Try.func40, Try.ntmps40
            go_wp2
            go_ret2
            exact ⟨rfl, rfl⟩
          · have c4a : decide (IntKind.u64.wrap ((IntKind.u64.wrap ((IntKind.u64.wrap ((IntKind.u64.wrap (((IntKind.u64.wrap (-(IntKind.u64.wrap a))) / 4294967296) * (Go.bits .and .u64 (IntKind.u64.wrap b) 4294967295))) + (IntKind.u64.wrap ((Go.bits .and .u64 (IntKind.u64.wrap (-(IntKind.u64.wrap a))) 4294967295) * ((IntKind.u64.wrap b) / 4294967296))))) * 4294967296)) + (IntKind.u64.wrap ((Go.bits .and .u64 (IntKind.u64.wrap (-(IntKind.u64.wrap a))) 4294967295) * (Go.bits .and .u64 (IntKind.u64.wrap b) 4294967295)))) < IntKind.u64.wrap ((Go.bits .and .u64 (IntKind.u64.wrap (-(IntKind.u64.wrap a))) 4294967295) * (Go.bits .and .u64 (IntKind.u64.wrap b) 4294967295))) = false := decide_eq_false c4
            have hv : haspref03_mul.g (decide (a < 0) != decide (b < 0)) (haspref03_mul.ab a) (haspref03_mul.ab b) = (wrap64 (IntKind.u64.wrap (-(IntKind.u64.wrap ((IntKind.u64.wrap ((IntKind.u64.wrap ((IntKind.u64.wrap (((IntKind.u64.wrap (-(IntKind.u64.wrap a))) / 4294967296) * (Go.bits .and .u64 (IntKind.u64.wrap b) 4294967295))) + (IntKind.u64.wrap ((Go.bits .and .u64 (IntKind.u64.wrap (-(IntKind.u64.wrap a))) 4294967295) * ((IntKind.u64.wrap b) / 4294967296))))) * 4294967296)) + (IntKind.u64.wrap ((Go.bits .and .u64 (IntKind.u64.wrap (-(IntKind.u64.wrap a))) 4294967295) * (Go.bits .and .u64 (IntKind.u64.wrap b) 4294967295))))))), decide (IntKind.u64.wrap ((IntKind.u64.wrap ((IntKind.u64.wrap ((IntKind.u64.wrap (((IntKind.u64.wrap (-(IntKind.u64.wrap a))) / 4294967296) * (Go.bits .and .u64 (IntKind.u64.wrap b) 4294967295))) + (IntKind.u64.wrap ((Go.bits .and .u64 (IntKind.u64.wrap (-(IntKind.u64.wrap a))) 4294967295) * ((IntKind.u64.wrap b) / 4294967296))))) * 4294967296)) + (IntKind.u64.wrap ((Go.bits .and .u64 (IntKind.u64.wrap (-(IntKind.u64.wrap a))) 4294967295) * (Go.bits .and .u64 (IntKind.u64.wrap b) 4294967295)))) ≤ 9223372036854775808)) := by
              rw [EX.out, EY.out, ha1, hb1]
              unfold haspref03_mul.g
              rw [if_neg (show ¬ (0 < ((IntKind.u64.wrap (-(IntKind.u64.wrap a))) / 4294967296) ∧ 0 < ((IntKind.u64.wrap b) / 4294967296)) from fun h => c1 h.1)]
              rw [if_neg (show ¬ 0 < haspref03_mul.mid (IntKind.u64.wrap (-(IntKind.u64.wrap a))) (IntKind.u64.wrap b) / 4294967296 from c3)]
              rw [if_neg (show ¬ haspref03_mul.n (IntKind.u64.wrap (-(IntKind.u64.wrap a))) (IntKind.u64.wrap b) < haspref03_mul.low (IntKind.u64.wrap (-(IntKind.u64.wrap a))) (IntKind.u64.wrap b) from c4)]
              rw [if_pos (by decide)]
              rfl
            rw [hv]
            clear hv
            go_enter Try.func40, Try.ntmps40
            go_wp2
            go_ret2
            exact ⟨rfl, rfl⟩
  · have ha1 : decide (a < 0) = false := decide_eq_false ha
    by_cases hb : b < 0
    · have hb1 : decide (b < 0) = true := decide_eq_true hb
      have ex : haspref03_mul.ab a = IntKind.u64.wrap a := if_neg ha
      have ey : haspref03_mul.ab b = IntKind.u64.wrap (-(IntKind.u64.wrap b)) := if_pos hb
      have EX := Lib.hid ex
      have EY := Lib.hid ey
      clear ex ey
      by_cases c1 : ((IntKind.u64.wrap a) / 4294967296) > 0
      · have c1a : decide (((IntKind.u64.wrap a) / 4294967296) > 0) = true := decide_eq_true c1
        by_cases c2 : ((IntKind.u64.wrap (-(IntKind.u64.wrap b))) / 4294967296) > 0
        · have c2a : decide (((IntKind.u64.wrap (-(IntKind.u64.wrap b))) / 4294967296) > 0) = true := decide_eq_true c2
          have hv : haspref03_mul.g (decide (a < 0) != decide (b < 0)) (haspref03_mul.ab a) (haspref03_mul.ab b) = (0, false) := by
            rw [EX.out, EY.out, ha1, hb1]
            unfold haspref03_mul.g
            rw [if_pos (show 0 < ((IntKind.u64.wrap a) / 4294967296) ∧ 0 < ((IntKind.u64.wrap (-(IntKind.u64.wrap b))) / 4294967296) from ⟨c1, c2⟩)]
          rw [hv]
          clear hv
          go_enter Try.func40, Try.ntmps40
          go_wp2
          go_ret2
          exact ⟨rfl, rfl⟩
        · have c2a : decide (((IntKind.u64.wrap (-(IntKind.u64.wrap b))) / 4294967296) > 0) = false := decide_eq_false c2
          by_cases c3 : (IntKind.u64.wrap ((IntKind.u64.wrap (((IntKind.u64.wrap a) / 4294967296) * (Go.bits .and .u64 (IntKind.u64.wrap (-(IntKind.u64.wrap b))) 4294967295))) + (IntKind.u64.wrap ((Go.bits .and .u64 (IntKind.u64.wrap a) 4294967295) * ((IntKind.u64.wrap (-(IntKind.u64.wrap b))) / 4294967296))))) / 4294967296 > 0
          · have c3a : decide ((IntKind.u64.wrap ((IntKind.u64.wrap (((IntKind.u64.wrap a) / 4294967296) * (Go.bits .and .u64 (IntKind.u64.wrap (-(IntKind.u64.wrap b))) 4294967295))) + (IntKind.u64.wrap ((Go.bits .and .u64 (IntKind.u64.wrap a) 4294967295) * ((IntKind.u64.wrap (-(IntKind.u64.wrap b))) / 4294967296))))) / 4294967296 > 0) = true := decide_eq_true c3
            have hv : haspref03_mul.g (decide (a < 0) != decide (b < 0)) (haspref03_mul.ab a) (haspref03_mul.ab b) = (0, false) := by
              rw [EX.out, EY.out, ha1, hb1]
              unfold haspref03_mul.g
              rw [if_neg (show ¬ (0 < ((IntKind.u64.wrap a) / 4294967296) ∧ 0 < ((IntKind.u64.wrap (-(IntKind.u64.wrap b))) / 4294967296)) from fun h => c2 h.2)]
              rw [if_pos (show 0 < haspref03_mul.mid (IntKind.u64.wrap a) (IntKind.u64.wrap (-(IntKind.u64.wrap b))) / 4294967296 from c3)]
            rw [hv]
            clear hv
            go_enter Try.func40, Try.ntmps40
            go_wp2
            go_ret2
            exact ⟨rfl, rfl⟩
          · have c3a : decide ((IntKind.u64.wrap ((IntKind.u64.wrap (((IntKind.u64.wrap a) / 4294967296) * (Go.bits .and .u64 (IntKind.u64.wrap (-(IntKind.u64.wrap b))) 4294967295))) + (IntKind.u64.wrap ((Go.bits .and .u64 (IntKind.u64.wrap a) 4294967295) * ((IntKind.u64.wrap (-(IntKind.u64.wrap b))) / 4294967296))))) / 4294967296 > 0) = false := decide_eq_false c3
            by_cases c4 : IntKind.u64.wrap ((IntKind.u64.wrap ((IntKind.u64.wrap ((IntKind.u64.wrap (((IntKind.u64.wrap a) / 4294967296) * (Go.bits .and .u64 (IntKind.u64.wrap (-(IntKind.u64.wrap b))) 4294967295))) + (IntKind.u64.wrap ((Go.bits .and .u64 (IntKind.u64.wrap a) 4294967295) * ((IntKind.u64.wrap (-(IntKind.u64.wrap b))) / 4294967296))))) * 4294967296)) + (IntKind.u64.wrap ((Go.bits .and .u64 (IntKind.u64.wrap a) 4294967295) * (Go.bits .and .u64 (IntKind.u64.wrap (-(IntKind.u64.wrap b))) 4294967295)))) < IntKind.u64.wrap ((Go.bits .and .u64 (IntKind.u64.wrap a) 4294967295) * (Go.bits .and .u64 (IntKind.u64.wrap (-(IntKind.u64.wrap b))) 4294967295))
            · have c4a : decide (IntKind.u64.wrap ((IntKind.u64.wrap ((IntKind.u64.wrap ((IntKind.u64.wrap (((IntKind.u64.wrap a) / 4294967296) * (Go.bits .and .u64 (IntKind.u64.wrap (-(IntKind.u64.wrap b))) 4294967295))) + (IntKind.u64.wrap ((Go.bits .and .u64 (IntKind.u64.wrap a) 4294967295) * ((IntKind.u64.wrap (-(IntKind.u64.wrap b))) / 4294967296))))) * 4294967296)) + (IntKind.u64.wrap ((Go.bits .and .u64 (IntKind.u64.wrap a) 4294967295) * (Go.bits .and .u64 (IntKind.u64.wrap (-(IntKind.u64.wrap b))) 4294967295)))) < IntKind.u64.wrap ((Go.bits .and .u64 (IntKind.u64.wrap a) 4294967295) * (Go.bits .and .u64 (IntKind.u64.wrap (-(IntKind.u64.wrap b))) 4294967295))) = true := decide_eq_true c4
              have hv : haspref03_mul.g (decide (a < 0) != decide (b < 0)) (haspref03_mul.ab a) (haspref03_mul.ab b) = (0, false) := by
                rw [EX.out, EY.out, ha1, hb1]
                unfold haspref03_mul.g
                rw [if_neg (show ¬ (0 < ((IntKind.u64.wrap a) / 4294967296) ∧ 0 < ((IntKind.u64.wrap (-(IntKind.u64.wrap b))) / 4294967296)) from fun h => c2 h.2)]
                rw [if_neg (show ¬ 0 < haspref03_mul.mid (IntKind.u64.wrap a) (IntKind.u64.wrap (-(IntKind.u64.wrap b))) / 4294967296 from c3)]
                rw [if_pos (show haspref03_mul.n (IntKind.u64.wrap a) (IntKind.u64.wrap (-(IntKind.u64.wrap b))) < haspref03_mul.low (IntKind.u64.wrap a) (IntKind.u64.wrap (-(IntKind.u64.wrap b))) from c4)]
              rw [hv]
              clear hv
              go_enter Try.func40, Try.ntmps40
              go_wp2
              go_ret2
              exact ⟨rfl, rfl⟩
            · have c4a : decide (IntKind.u64.wrap ((IntKind.u64.wrap ((IntKind.u64.wrap ((IntKind.u64.wrap (((IntKind.u64.wrap a) / 4294967296) * (Go.bits .and .u64 (IntKind.u64.wrap (-(IntKind.u64.wrap b))) 4294967295))) + (IntKind.u64.wrap ((Go.bits .and .u64 (IntKind.u64.wrap a) 4294967295) * ((IntKind.u64.wrap (-(IntKind.u64.wrap b))) / 4294967296))))) * 4294967296)) + (IntKind.u64.wrap ((Go.bits .and .u64 (IntKind.u64.wrap a) 4294967295) * (Go.bits .and .u64 (IntKind.u64.wrap (-(IntKind.u64.wrap b))) 4294967295)))) < IntKind.u64.wrap ((Go.bits .and .u64 (IntKind.u64.wrap a) 4294967295) * (Go.bits .and .u64 (IntKind.u64.wrap (-(IntKind.u64.wrap b))) 4294967295))) = false := decide_eq_false c4
              have hv : haspref03_mul.g (decide (a < 0) != decide (b < 0)) (haspref03_mul.ab a) (haspref03_mul.ab b) = (wrap64 (IntKind.u64.wrap (-(IntKind.u64.wrap ((IntKind.u64.wrap ((IntKind.u64.wrap ((IntKind.u64.wrap (((IntKind.u64.wrap a) / 4294967296) * (Go.bits .and .u64 (IntKind.u64.wrap (-(IntKind.u64.wrap b))) 4294967295))) + (IntKind.u64.wrap ((Go.bits .and .u64 (IntKind.u64.wrap a) 4294967295) * ((IntKind.u64.wrap (-(IntKind.u64.wrap b))) / 4294967296))))) * 4294967296)) + (IntKind.u64.wrap ((Go.bits .and .u64 (IntKind.u64.wrap a) 4294967295) * (Go.bits .and .u64 (IntKind.u64.wrap (-(IntKind.u64.wrap b))) 4294967295))))))), decide (IntKind.u64.wrap ((IntKind.u64.wrap ((IntKind.u64.wrap ((IntKind.u64.wrap (((IntKind.u64.wrap a) / 4294967296) * (Go.bits .and .u64 (IntKind.u64.wrap (-(IntKind.u64.wrap b))) 4294967295))) + (IntKind.u64.wrap ((Go.bits .and .u64 (IntKind.u64.wrap a) 4294967295) * ((IntKind.u64.wrap (-(IntKind.u64.wrap b))) / 4294967296))))) * 4294967296)) + (IntKind.u64.wrap ((Go.bits .and .u64 (IntKind.u64.wrap a) 4294967295) * (Go.bits .and .u64 (IntKind.u64.wrap (-(IntKind.u64.wrap b))) 4294967295)))) ≤ 9223372036854775808)) := by
                rw [EX.out, EY.out, ha1, hb1]
                unfold haspref03_mul.g
                rw [if_neg (show ¬ (0 < ((IntKind.u64.wrap a) / 4294967296) ∧ 0 < ((IntKind.u64.wrap (-(IntKind.u64.wrap b))) / 4294967296)) from fun h => c2 h.2)]
                rw [if_neg (show ¬ 0 < haspref03_mul.mid (IntKind.u64.wrap a) (IntKind.u64.wrap (-(IntKind.u64.wrap b))) / 4294967296 from c3)]
                rw [if_neg (show ¬ haspref03_mul.n (IntKind.u64.wrap a) (IntKind.u64.wrap (-(IntKind.u64.wrap b))) < haspref03_mul.low (IntKind.u64.wrap a) (IntKind.u64.wrap (-(IntKind.u64.wrap b))) from c4)]
                rw [if_pos (by decide)]
                rfl
              rw [hv]
              clear hv
              go_enter Try.func40, Try.ntmps40
              go_wp2
              go_ret2
              exact ⟨rfl, rfl⟩
      · have c1a : decide (((IntKind.u64.wrap a) / 4294967296) > 0) = false := decide_eq_false c1
        by_cases c3 : (IntKind.u64.wrap ((IntKind.u64.wrap (((IntKind.u64.wrap a) / 4294967296) * (Go.bits .and .u64 (IntKind.u64.wrap (-(IntKind.u64.wrap b))) 4294967295))) + (IntKind.u64.wrap ((Go.bits .and .u64 (IntKind.u64.wrap a) 4294967295) * ((IntKind.u64.wrap (-(IntKind.u64.wrap b))) / 4294967296))))) / 4294967296 > 0
        · have c3a : decide ((IntKind.u64.wrap ((IntKind.u64.wrap (((IntKind.u64.wrap a) / 4294967296) * (Go.bits .and .u64 (IntKind.u64.wrap (-(IntKind.u64.wrap b))) 4294967295))) + (IntKind.u64.wrap ((Go.bits .and .u64 (IntKind.u64.wrap a) 4294967295) * ((IntKind.u64.wrap (-(IntKind.u64.wrap b))) / 4294967296))))) / 4294967296 > 0) = true := decide_eq_true c3
          have hv : haspref03_mul.g (decide (a < 0) != decide (b < 0)) (haspref03_mul.ab a) (haspref03_mul.ab b) = (0, false) := by
            rw [EX.out, EY.out, ha1, hb1]
            unfold haspref03_mul.g
            rw [if_neg (show ¬ (0 < ((IntKind.u64.wrap a) / 4294967296) ∧ 0 < ((IntKind.u64.wrap (-(IntKind.u64.wrap b))) / 4294967296)) from fun h => c1 h.1)]
            rw [if_pos (show 0 < haspref03_mul.mid (IntKind.u64.wrap a) (IntKind.u64.wrap (-(IntKind.u64.wrap b))) / 4294967296 from c3)]
          rw [hv]
          clear hv
          go_enter Try.func40, Try.ntmps40
          go_wp2
          go_ret2
          exact ⟨rfl, rfl⟩
        · have c3a : decide ((IntKind.u64.wrap ((IntKind.u64.wrap (((IntKind.u64.wrap a) / 4294967296) * (Go.bits .and .u64 (IntKind.u64.wrap (-(IntKind.u64.wrap b))) 4294967295))) + (IntKind.u64.wrap ((Go.bits .and .u64 (IntKind.u64.wrap a) 4294967295) * ((IntKind.u64.wrap (-(IntKind.u64.wrap b))) / 4294967296))))) / 4294967296 > 0) = false := decide_eq_false c3
          by_cases c4 : IntKind.u64.wrap ((IntKind.u64.wrap ((IntKind.u64.wrap ((IntKind.u64.wrap (((IntKind.u64.wrap a) / 4294967296) * (Go.bits .and .u64 (IntKind.u64.wrap (-(IntKind.u64.wrap b))) 4294967295))) + (IntKind.u64.wrap ((Go.bits .and .u64 (IntKind.u64.wrap a) 4294967295) * ((IntKind.u64.wrap (-(IntKind.u64.wrap b))) / 4294967296))))) * 4294967296)) + (IntKind.u64.wrap ((Go.bits .and .u64 (IntKind.u64.wrap a) 4294967295) * (Go.bits .and .u64 (IntKind.u64.wrap (-(IntKind.u64.wrap b))) 4294967295)))) < IntKind.u64.wrap ((Go.bits .and .u64 (IntKind.u64.wrap a) 4294967295) * (Go.bits .and .u64 (IntKind.u64.wrap (-(IntKind.u64.wrap b))) 4294967295))
          · have c4a : decide (IntKind.u64.wrap ((IntKind.u64.wrap ((IntKind.u64.wrap ((IntKind.u64.wrap (((IntKind.u64.wrap a) / 4294967296) * (Go.bits .and .u64 (IntKind.u64.wrap (-(IntKind.u64.wrap b))) 4294967295))) + (IntKind.u64.wrap ((Go.bits .and .u64 (IntKind.u64.wrap a) 4294967295) * ((IntKind.u64.wrap (-(IntKind.u64.wrap b))) / 4294967296))))) * 4294967296)) + (IntKind.u64.wrap ((Go.bits .and .u64 (IntKind.u64.wrap a) 4294967295) * (Go.bits .and .u64 (IntKind.u64.wrap (-(IntKind.u64.wrap b))) 4294967295)))) < IntKind.u64.wrap ((Go.bits .and .u64 (IntKind.u64.wrap a) 4294967295) * (Go.bits .and .u64 (IntKind.u64.wrap (-(IntKind.u64.wrap b))) 4294967295))) = true := decide_eq_true c4
            have hv : haspref03_mul.g (decide (a < 0) != decide (b < 0)) (haspref03_mul.ab a) (haspref03_mul.ab b) = (0, false) := by
              rw [EX.out, EY.out, ha1, hb1]
              unfold haspref03_mul.g
              rw [if_neg (show ¬ (0 < ((IntKind.u64.wrap a) / 4294967296) ∧ 0 < ((IntKind.u64.wrap (-(IntKind.u64.wrap b))) / 4294967296)) from fun h => c1 h.1)]
              rw [if_neg (show ¬ 0 < haspref03_mul.mid (IntKind.u64.wrap a) (IntKind.u64.wrap (-(IntKind.u64.wrap b))) / 4294967296 from c3)]
              rw [if_pos (show haspref03_mul.n (IntKind.u64.wrap a) (IntKind.u64.wrap (-(IntKind.u64.wrap b))) < haspref03_mul.low (IntKind.u64.wrap a) (IntKind.u64.wrap (-(IntKind.u64.wrap b))) from c4)]
            rw [hv]
            clear hv
            go_enter Try.func40, Try.ntmps40
            go_wp2
            go_ret2
            exact ⟨rfl, rfl⟩
          · have c4a : decide (IntKind.u64.wrap ((IntKind.u64.wrap ((IntKind.u64.wrap ((IntKind.u64.wrap (((IntKind.u64.wrap a) / 4294967296) * (Go.bits .and .u64 (IntKind.u64.wrap (-(IntKind.u64.wrap b))) 4294967295))) + (IntKind.u64.wrap ((Go.bits .and .u64 (IntKind.u64.wrap a) 4294967295) * ((IntKind.u64.wrap (-(IntKind.u64.wrap b))) / 4294967296))))) * 4294967296)) + (IntKind.u64.wrap ((Go.bits .and .u64 (IntKind.u64.wrap a) 4294967295) * (Go.bits .and .u64 (IntKind.u64.wrap (-(IntKind.u64.wrap b))) 4294967295)))) < IntKind.u64.wrap ((Go.bits .and .u64 (IntKind.u64.wrap a) 4294967295) * (Go.bits .and .u64 (IntKind.u64.wrap (-(IntKind.u64.wrap b))) 4294967295))) = false := decide_eq_false c4
            have hv : haspref03_mul.g (decide (a < 0) != decide (b < 0)) (haspref03_mul.ab a) (haspref03_mul.ab b) = (wrap64 (IntKind.u64.wrap (-(IntKind.u64.wrap ((IntKind.u64.wrap ((IntKind.u64.wrap ((IntKind.u64.wrap (((IntKind.u64.wrap a) / 4294967296) * (Go.bits .and .u64 (IntKind.u64.wrap (-(IntKind.u64.wrap b))) 4294967295))) + (IntKind.u64.wrap ((Go.bits .and .u64 (IntKind.u64.wrap a) 4294967295) * ((IntKind.u64.wrap (-(IntKind.u64.wrap b))) / 4294967296))))) * 4294967296)) + (IntKind.u64.wrap ((Go.bits .and .u64 (IntKind.u64.wrap a) 4294967295) * (Go.bits .and .u64 (IntKind.u64.wrap (-(IntKind.u64.wrap b))) 4294967295))))))), decide (IntKind.u64.wrap ((IntKind.u64.wrap ((IntKind.u64.wrap ((IntKind.u64.wrap (((IntKind.u64.wrap a) / 4294967296) * (Go.bits .and .u64 (IntKind.u64.wrap (-(IntKind.u64.wrap b))) 4294967295))) + (IntKind.u64.wrap ((Go.bits .and .u64 (IntKind.u64.wrap a) 4294967295) * ((IntKind.u64.wrap (-(IntKind.u64.wrap b))) / 4294967296))))) * 4294967296)) + (IntKind.u64.wrap ((Go.bits .and .u64 (IntKind.u64.wrap a) 4294967295) * (Go.bits .and .u64 (IntKind.u64.wrap (-(IntKind.u64.wrap b))) 4294967295)))) ≤ 9223372036854775808)) := by
              rw [EX.out, EY.out, ha1, hb1]
              unfold haspref03_mul.g
              rw [if_neg (show ¬ (0 < ((IntKind.u64.wrap a) / 4294967296) ∧ 0 < ((IntKind.u64.wrap (-(IntKind.u64.wrap b))) / 4294967296)) from fun h => c1 h.1)]
              rw [if_neg (show ¬ 0 < haspref03_mul.mid (IntKind.u64.wrap a) (IntKind.u64.wrap (-(IntKind.u64.wrap b))) / 4294967296 from c3)]
              rw [if_neg (show ¬ haspref03_mul.n (IntKind.u64.wrap a) (IntKind.u64.wrap (-(IntKind.u64.wrap b))) < haspref03_mul.low (IntKind.u64.wrap a) (IntKind.u64.wrap (-(IntKind.u64.wrap b))) from c4)]
              rw [if_pos (by decide)]
              rfl
            rw [hv]
            clear hv
            go_enter Try.func40, Try.ntmps40
            go_wp2
            go_ret2
            exact ⟨rfl, rfl⟩
    · have hb1 : decide (b < 0) = false := decide_eq_false hb
      have ex : haspref03_mul.ab a = IntKind.u64.wrap a := if_neg ha
      have ey : haspref03_mul.ab b = IntKind.u64.wrap b := if_neg hb
      have EX := Lib.hid ex
      have EY := Lib.hid ey
      clear ex ey
      by_cases c1 : ((IntKind.u64.wrap a) / 4294967296) > 0
      · have c1a : decide (((IntKind.u64.wrap a) / 4294967296) > 0) = true := decide_eq_true c1
        by_cases c2 : ((IntKind.u64.wrap b) / 4294967296) > 0
        · have c2a : decide (((IntKind.u64.wrap b) / 4294967296) > 0) = true := decide_eq_true c2
          have hv : haspref03_mul.g (decide (a < 0) != decide (b < 0)) (haspref03_mul.ab a) (haspref03_mul.ab b) = (0, false) := by
            rw [EX.out, EY.out, ha1, hb1]
            unfold haspref03_mul.g
            rw [if_pos (show 0 < ((IntKind.u64.wrap a) / 4294967296) ∧ 0 < ((IntKind.u64.wrap b) / 4294967296) from ⟨c1, c2⟩)]
          rw [hv]
          clear hv
          go_enter Try.func40, Try.ntmps40
          go_wp2
          go_ret2
          exact ⟨rfl, rfl⟩
        · have c2a : decide (((IntKind.u64.wrap b) / 4294967296) > 0) = false := decide_eq_false c2
          by_cases c3 : (IntKind.u64.wrap ((IntKind.u64.wrap (((IntKind.u64.wrap a) / 4294967296) * (Go.bits .and .u64 (IntKind.u64.wrap b) 4294967295))) + (IntKind.u64.wrap ((Go.bits .and .u64 (IntKind.u64.wrap a) 4294967295) * ((IntKind.u64.wrap b) / 4294967296))))) / 4294967296 > 0
          · have c3a : decide ((IntKind.u64.wrap ((IntKind.u64.wrap (((IntKind.u64.wrap a) / 4294967296) * (Go.bits .and .u64 (IntKind.u64.wrap b) 4294967295))) + (IntKind.u64.wrap ((Go.bits .and .u64 (IntKind.u64.wrap a) 4294967295) * ((IntKind.u64.wrap b) / 4294967296))))) / 4294967296 > 0) = true := decide_eq_true c3
            have hv : haspref03_mul.g (decide (a < 0) != decide (b < 0)) (haspref03_mul.ab a) (haspref03_mul.ab b) = (0, false) := by
              rw [EX.out, EY.out, ha1, hb1]
              unfold haspref03_mul.g
              rw [if_neg (show ¬ (0 < ((IntKind.u64.wrap a) / 4294967296) ∧ 0 < ((IntKind.u64.wrap b) / 4294967296)) from fun h => c2 h.2)]
              rw [if_pos (show 0 < haspref03_mul.mid (IntKind.u64.wrap a) (IntKind.u64.wrap b) / 4294967296 from c3)]
            rw [hv]
            clear hv
            go_enter Try.func40, Try.ntmps40
            go_wp2
            go_ret2
            exact ⟨rfl, rfl⟩
          · have c3a : decide ((IntKind.u64.wrap ((IntKind.u64.wrap (((IntKind.u64.wrap a) / 4294967296) * (Go.bits .and .u64 (IntKind.u64.wrap b) 4294967295))) + (IntKind.u64.wrap ((Go.bits .and .u64 (IntKind.u64.wrap a) 4294967295) * ((IntKind.u64.wrap b) / 4294967296))))) / 4294967296 > 0) = false := decide_eq_false c3
            by_cases c4 : IntKind.u64.wrap ((IntKind.u64.wrap ((IntKind.u64.wrap ((IntKind.u64.wrap (((IntKind.u64.wrap a) / 4294967296) * (Go.bits .and .u64 (IntKind.u64.wrap b) 4294967295))) + (IntKind.u64.wrap ((Go.bits .and .u64 (IntKind.u64.wrap a) 4294967295) * ((IntKind.u64.wrap b) / 4294967296))))) * 4294967296)) + (IntKind.u64.wrap ((Go.bits .and .u64 (IntKind.u64.wrap a) 4294967295) * (Go.bits .and .u64 (IntKind.u64.wrap b) 4294967295)))) < IntKind.u64.wrap ((Go.bits .and .u64 (IntKind.u64.wrap a) 4294967295) * (Go.bits .and .u64 (IntKind.u64.wrap b) 4294967295))
            · have c4a : decide (IntKind.u64.wrap ((IntKind.u64.wrap ((IntKind.u64.wrap ((IntKind.u64.wrap (((IntKind.u64.wrap a) / 4294967296) * (Go.bits .and .u64 (IntKind.u64.wrap b) 4294967295))) + (IntKind.u64.wrap ((Go.bits .and .u64 (IntKind.u64.wrap a) 4294967295) * ((IntKind.u64.wrap b) / 4294967296))))) * 4294967296)) + (IntKind.u64.wrap ((Go.bits .and .u64 (IntKind.u64.wrap a) 4294967295) * (Go.bits .and .u64 (IntKind.u64.wrap b) 4294967295)))) < IntKind.u64.wrap ((Go.bits .and .u64 (IntKind.u64.wrap a) 4294967295) * (Go.bits .and .u64 (IntKind.u64.wrap b) 4294967295))) = true := decide_eq_true c4
              have hv : haspref03_mul.g (decide (a < 0) != decide (b < 0)) (haspref03_mul.ab a) (haspref03_mul.ab b) = (0, false) := by
                rw [EX.out, EY.out, ha1, hb1]
                unfold haspref03_mul.g
                rw [if_neg (show ¬ (0 < ((IntKind.u64.wrap a) / 4294967296) ∧ 0 < ((IntKind.u64.wrap b) / 4294967296)) from fun h => c2 h.2)]
                rw [if_neg (show ¬ 0 < haspref03_mul.mid (IntKind.u64.wrap a) (IntKind.u64.wrap b) / 4294967296 from c3)]
                rw [if_pos (show haspref03_mul.n (IntKind.u64.wrap a) (IntKind.u64.wrap b) < haspref03_mul.low (IntKind.u64.wrap a) (IntKind.u64.wrap b) from c4)]
              rw [hv]
              clear hv
              go_enter Try.func40, Try.ntmps40
              go_wp2
              go_ret2
              exact ⟨rfl, rfl⟩
            · have c4a : decide (IntKind.u64.wrap ((IntKind.u64.wrap ((IntKind.u64.wrap ((IntKind.u64.wrap (((IntKind.u64.wrap a) / 4294967296) * (Go.bits .and .u64 (IntKind.u64.wrap b) 4294967295))) + (IntKind.u64.wrap ((Go.bits .and .u64 (IntKind.u64.wrap a) 4294967295) * ((IntKind.u64.wrap b) / 4294967296))))) * 4294967296)) + (IntKind.u64.wrap ((Go.bits .and .u64 (IntKind.u64.wrap a) 4294967295) * (Go.bits .and .u64 (IntKind.u64.wrap b) 4294967295)))) < IntKind.u64.wrap ((Go.bits .and .u64 (IntKind.u64.wrap a) 4294967295) * (Go.bits .and .u64 (IntKind.u64.wrap b) 4294967295))) = false := decide_eq_false c4
              have hv : haspref03_mul.g (decide (a < 0) != decide (b < 0)) (haspref03_mul.ab a) (haspref03_mul.ab b) = (wrap64 (IntKind.u64.wrap ((IntKind.u64.wrap ((IntKind.u64.wrap ((IntKind.u64.wrap (((IntKind.u64.wrap a) / 4294967296) * (Go.bits .and .u64 (IntKind.u64.wrap b) 4294967295))) + (IntKind.u64.wrap ((Go.bits .and .u64 (IntKind.u64.wrap a) 4294967295) * ((IntKind.u64.wrap b) / 4294967296))))) * 4294967296)) + (IntKind.u64.wrap ((Go.bits .and .u64 (IntKind.u64.wrap a) 4294967295) * (Go.bits .and .u64 (IntKind.u64.wrap b) 4294967295))))), decide (IntKind.u64.wrap ((IntKind.u64.wrap ((IntKind.u64.wrap ((IntKind.u64.wrap (((IntKind.u64.wrap a) / 4294967296) * (Go.bits .and .u64 (IntKind.u64.wrap b) 4294967295))) + (IntKind.u64.wrap ((Go.bits .and .u64 (IntKind.u64.wrap a) 4294967295) * ((IntKind.u64.wrap b) / 4294967296))))) * 4294967296)) + (IntKind.u64.wrap ((Go.bits .and .u64 (IntKind.u64.wrap a) 4294967295) * (Go.bits .and .u64 (IntKind.u64.wrap b) 4294967295)))) < 9223372036854775808)) := by
                rw [EX.out, EY.out, ha1, hb1]
                unfold haspref03_mul.g
                rw [if_neg (show ¬ (0 < ((IntKind.u64.wrap a) / 4294967296) ∧ 0 < ((IntKind.u64.wrap b) / 4294967296)) from fun h => c2 h.2)]
                rw [if_neg (show ¬ 0 < haspref03_mul.mid (IntKind.u64.wrap a) (IntKind.u64.wrap b) / 4294967296 from c3)]
                rw [if_neg (show ¬ haspref03_mul.n (IntKind.u64.wrap a) (IntKind.u64.wrap b) < haspref03_mul.low (IntKind.u64.wrap a) (IntKind.u64.wrap b) from c4)]
                rw [if_neg (by decide)]
                rfl
              rw [hv]
              clear hv
              go_enter Try.func40, Try.ntmps40
              go_wp2
              go_ret2
              exact ⟨rfl, rfl⟩
      · have c1a : decide (((IntKind.u64.wrap a) / 4294967296) > 0) = false := decide_eq_false c1
        by_cases c3 : (IntKind.u64.wrap ((IntKind.u64.wrap (((IntKind.u64.wrap a) / 4294967296) * (Go.bits .and .u64 (IntKind.u64.wrap b) 4294967295))) + (IntKind.u64.wrap ((Go.bits .and .u64 (IntKind.u64.wrap a) 4294967295) * ((IntKind.u64.wrap b) / 4294967296))))) / 4294967296 > 0
        · have c3a : decide ((IntKind.u64.wrap ((IntKind.u64.wrap (((IntKind.u64.wrap a) / 4294967296) * (Go.bits .and .u64 (IntKind.u64.wrap b) 4294967295))) + (IntKind.u64.wrap ((Go.bits .and .u64 (IntKind.u64.wrap a) 4294967295) * ((IntKind.u64.wrap b) / 4294967296))))) / 4294967296 > 0) = true := decide_eq_true c3
          have hv : haspref03_mul.g (decide (a < 0) != decide (b < 0)) (haspref03_mul.ab a) (haspref03_mul.ab b) = (0, false) := by
            rw [EX.out, EY.out, ha1, hb1]
            unfold haspref03_mul.g
            rw [if_neg (show ¬ (0 < ((IntKind.u64.wrap a) / 4294967296) ∧ 0 < ((IntKind.u64.wrap b) / 4294967296)) from fun h => c1 h.1)]
            rw [if_pos (show 0 < haspref03_mul.mid (IntKind.u64.wrap a) (IntKind.u64.wrap b) / 4294967296 from c3)]
          rw [hv]
          clear hv
          go_enter Try.func40, Try.ntmps40
          go_wp2
          go_ret2
          exact ⟨rfl, rfl⟩
        · have c3a : decide ((IntKind.u64.wrap ((IntKind.u64.wrap (((IntKind.u64.wrap a) / 4294967296) * (Go.bits .and .u64 (IntKind.u64.wrap b) 4294967295))) + (IntKind.u64.wrap ((Go.bits .and .u64 (IntKind.u64.wrap a) 4294967295) * ((IntKind.u64.wrap b) / 4294967296))))) / 4294967296 > 0) = false := decide_eq_false c3
          by_cases c4 : IntKind.u64.wrap ((IntKind.u64.wrap ((IntKind.u64.wrap ((IntKind.u64.wrap (((IntKind.u64.wrap a) / 4294967296) * (Go.bits .and .u64 (IntKind.u64.wrap b) 4294967295))) + (IntKind.u64.wrap ((Go.bits .and .u64 (IntKind.u64.wrap a) 4294967295) * ((IntKind.u64.wrap b) / 4294967296))))) * 4294967296)) + (IntKind.u64.wrap ((Go.bits .and .u64 (IntKind.u64.wrap a) 4294967295) * (Go.bits .and .u64 (IntKind.u64.wrap b) 4294967295)))) < IntKind.u64.wrap ((Go.bits .and .u64 (IntKind.u64.wrap a) 4294967295) * (Go.bits .and .u64 (IntKind.u64.wrap b) 4294967295))
          · have c4a : decide (IntKind.u64.wrap ((IntKind.u64.wrap ((IntKind.u64.wrap ((IntKind.u64.wrap (((IntKind.u64.wrap a) / 4294967296) * (Go.bits .and .u64 (IntKind.u64.wrap b) 4294967295))) + (IntKind.u64.wrap ((Go.bits .and .u64 (IntKind.u64.wrap a) 4294967295) * ((IntKind.u64.wrap b) / 4294967296))))) * 4294967296)) + (IntKind.u64.wrap ((Go.bits .and .u64 (IntKind.u64.wrap a) 4294967295) * (Go.bits .and .u64 (IntKind.u64.wrap b) 4294967295)))) < IntKind.u64.wrap ((Go.bits .and .u64 (IntKind.u64.wrap a) 4294967295) * (Go.bits .and .u64 (IntKind.u64.wrap b) 4294967295))) = true := decide_eq_true c4
            have hv : haspref03_mul.g (decide (a < 0) != decide (b < 0)) (haspref03_mul.ab a) (haspref03_mul.ab b) = (0, false) := by
              rw [EX.out, EY.out, ha1, hb1]
              unfold haspref03_mul.g
              rw [if_neg (show ¬ (0 < ((IntKind.u64.wrap a) / 4294967296) ∧ 0 < ((IntKind.u64.wrap b) / 4294967296)) from fun h => c1 h.1)]
              rw [if_neg (show ¬ 0 < haspref03_mul.mid (IntKind.u64.wrap a) (IntKind.u64.wrap b) / 4294967296 from c3)]
              rw [if_pos (show haspref03_mul.n (IntKind.u64.wrap a) (IntKind.u64.wrap b) < haspref03_mul.low (IntKind.u64.wrap a) (IntKind.u64.wrap b) from c4)]
            rw [hv]
            clear hv
            go_enter Try.func40, Try.ntmps40
            go_wp2
            go_ret2
            exact ⟨rfl, rfl⟩
          · have c4a : decide (IntKind.u64.wrap ((IntKind.u64.wrap ((IntKind.u64.wrap ((IntKind.u64.wrap (((IntKind.u64.wrap a) / 4294967296) * (Go.bits .and .u64 (IntKind.u64.wrap b) 4294967295))) + (IntKind.u64.wrap ((Go.bits .and .u64 (IntKind.u64.wrap a) 4294967295) * ((IntKind.u64.wrap b) / 4294967296))))) * 4294967296)) + (IntKind.u64.wrap ((Go.bits .and .u64 (IntKind.u64.wrap a) 4294967295) * (Go.bits .and .u64 (IntKind.u64.wrap b) 4294967295)))) < IntKind.u64.wrap ((Go.bits .and .u64 (IntKind.u64.wrap a) 4294967295) * (Go.bits .and .u64 (IntKind.u64.wrap b) 4294967295))) = false := decide_eq_false c4
            have hv : haspref03_mul.g (decide (a < 0) != decide (b < 0)) (haspref03_mul.ab a) (haspref03_mul.ab b) = (wrap64 (IntKind.u64.wrap ((IntKind.u64.wrap ((IntKind.u64.wrap ((IntKind.u64.wrap (((IntKind.u64.wrap a) / 4294967296) * (Go.bits .and .u64 (IntKind.u64.wrap b) 4294967295))) + (IntKind.u64.wrap ((Go.bits .and .u64 (IntKind.u64.wrap a) 4294967295) * ((IntKind.u64.wrap b) / 4294967296))))) * 4294967296)) + (IntKind.u64.wrap ((Go.bits .and .u64 (IntKind.u64.wrap a) 4294967295) * (Go.bits .and .u64 (IntKind.u64.wrap b) 4294967295))))), decide (IntKind.u64.wrap ((IntKind.u64.wrap ((IntKind.u64.wrap ((IntKind.u64.wrap (((IntKind.u64.wrap a) / 4294967296) * (Go.bits .and .u64 (IntKind.u64.wrap b) 4294967295))) + (IntKind.u64.wrap ((Go.bits .and .u64 (IntKind.u64.wrap a) 4294967295) * ((IntKind.u64.wrap b) / 4294967296))))) * 4294967296)) + (IntKind.u64.wrap ((Go.bits .and .u64 (IntKind.u64.wrap a) 4294967295) * (Go.bits .and .u64 (IntKind.u64.wrap b) 4294967295)))) < 9223372036854775808)) := by
              rw [EX.out, EY.out, ha1, hb1]
              unfold haspref03_mul.g
              rw [if_neg (show ¬ (0 < ((IntKind.u64.wrap a) / 4294967296) ∧ 0 < ((IntKind.u64.wrap b) / 4294967296)) from fun h => c1 h.1)]
              rw [if_neg (show ¬ 0 < haspref03_mul.mid (IntKind.u64.wrap a) (IntKind.u64.wrap b) / 4294967296 from c3)]
              rw [if_neg (show ¬ haspref03_mul.n (IntKind.u64.wrap a) (IntKind.u64.wrap b) < haspref03_mul.low (IntKind.u64.wrap a) (IntKind.u64.wrap b) from c4)]
              rw [if_neg (by decide)]
              rfl
            rw [hv]
            clear hv
            go_enter Try.func40, Try.ntmps40
            go_wp2
            go_ret2
            exact ⟨rfl, rfl⟩
theorem haspref03_mul.calls (a0 a1 : Int) (r1 : Int) (r2 : Bool) (w : World) (h : haspref03_mul.f a0 a1 = some (r1, r2)) :
    Calls Try.prog 40 #[.int .i64 a0, .int .i64 a1] w fun e w' => e = .returned (.tuple #[.int .i64 r1, .bool r2]) ∧ Drawn0 w w' := by
  have h2 := Option.some.inj h
  have e1 : (haspref03_mul.g (decide (a0 < 0) != decide (a1 < 0)) (haspref03_mul.ab a0) (haspref03_mul.ab a1)).1 = r1 := by rw [h2]
  have e2 : (haspref03_mul.g (decide (a0 < 0) != decide (a1 < 0)) (haspref03_mul.ab a0) (haspref03_mul.ab a1)).2 = r2 := by rw [h2]
  rw [← e1, ← e2]
  exact (haspref03_mul.walk a0 a1 w).mono fun _ _ ⟨he, hw⟩ => ⟨he, hw ▸ Drawn0.refl _⟩
/-! ### haspref03_Whole: function 28 -/
def haspref03_Whole.neg (a : Int) : Int × Int := if a = 0 then (0, 0) else if wrap64 (-a) = a then (0, 31) else (wrap64 (-a), 0)
def haspref03_Whole.add (a b n : Int) : Int × Int := if (0 ≤ a ∧ 0 ≤ b ∧ n < 0) ∨ (a < 0 ∧ b < 0 ∧ 0 ≤ n) then (0, 31) else (n, 0)
def haspref03_Whole.sub (a b n : Int) : Int × Int := if (0 ≤ a ∧ b < 0 ∧ n < 0) ∨ (a < 0 ∧ 0 ≤ b ∧ 0 ≤ n) then (0, 31) else (n, 0)
def haspref03_Whole.g (a0 a1 a2 : Int) : Int × Int :=
  if a0 = 7 then haspref03_Whole.add a1 a2 (wrap64 (a1 + a2))
  else if a0 = 8 then haspref03_Whole.sub a1 a2 (wrap64 (a1 - a2))
  else if a0 = 9 then (if ((haspref03_mul.f a1 a2).getD (0, false)).2 = true then (((haspref03_mul.f a1 a2).getD (0, false)).1, 0) else (0, 31))
  else if a0 = 13 then haspref03_Whole.neg a1
  else if a0 = 10 then (if a2 = 0 then (0, 32) else if a2 = -1 then haspref03_Whole.neg a1 else (wrap64 (Int.tdiv a1 a2), 0))
  else if a0 = 11 then (if a2 = 0 then (0, 32) else if a2 = -1 then (0, 0) else (wrap64 (a1 - wrap64 (wrap64 (Int.tdiv a1 a2) * a2)), 0))
  else (0, 0)
def haspref03_Whole.f (a0 a1 a2 : Int) : Option (Int × Int) := some (haspref03_Whole.g a0 a1 a2)
set_option maxHeartbeats 4000000 in
set_option maxRecDepth 100000 in
theorem haspref03_Whole.w_add (a1 a2 : Int) (w : World) :
    Calls Try.prog 28 #[.int .i64 7, .int .i64 a1, .int .i64 a2] w fun e w' => e = .returned (.tuple #[.int .i64 (haspref03_Whole.add a1 a2 (wrap64 (a1 + a2))).1, .int .i64 (haspref03_Whole.add a1 a2 (wrap64 (a1 + a2))).2]) ∧ w = w' := by
  by_cases p1 : a1 ≥ 0
  · have p1a : decide (a1 ≥ 0) = true := decide_eq_true p1
    have p1b : decide (a1 < 0) = false := decide_eq_false (by omega)
    by_cases p2 : a2 ≥ 0
    · have p2a : decide (a2 ≥ 0) = true := decide_eq_true p2
      have p2b : decide (a2 < 0) = false := decide_eq_false (by omega)
      by_cases p3 : (wrap64 (a1 + a2)) ≥ 0
      · have p3a : decide ((wrap64 (a1 + a2)) ≥ 0) = true := decide_eq_true p3
        have p3b : decide ((wrap64 (a1 + a2)) < 0) = false := decide_eq_false (by omega)
        have hv : haspref03_Whole.add a1 a2 (wrap64 (a1 + a2)) = (wrap64 (a1 + a2), (0 : Int)) := if_neg (by omega)
        rw [hv]
        clear hv
        go_enter Try.func28, Try.ntmps28
        go_wp2
        go_ret2
        exact ⟨rfl, rfl⟩
      · have p3a : decide ((wrap64 (a1 + a2)) ≥ 0) = false := decide_eq_false p3
        have p3b : decide ((wrap64 (a1 + a2)) < 0) = true := decide_eq_true (by omega)
        have hv : haspref03_Whole.add a1 a2 (wrap64 (a1 + a2)) = ((0 : Int), (31 : Int)) := if_pos (by omega)
        rw [hv]
        clear hv
        go_enter Try.func28, Try.ntmps28
        go_wp2
        go_ret2
        exact ⟨rfl, rfl⟩
    · have p2a : decide (a2 ≥ 0) = false := decide_eq_false p2
      have p2b : decide (a2 < 0) = true := decide_eq_true (by omega)
      by_cases p3 : (wrap64 (a1 + a2)) ≥ 0
      · have p3a : decide ((wrap64 (a1 + a2)) ≥ 0) = true := decide_eq_true p3
        have p3b : decide ((wrap64 (a1 + a2)) < 0) = false := decide_eq_false (by omega)
        have hv : haspref03_Whole.add a1 a2 (wrap64 (a1 + a2)) = (wrap64 (a1 + a2), (0 : Int)) := if_neg (by omega)
        rw [hv]
        clear hv
        go_enter Try.func28, Try.ntmps28
        go_wp2
        go_ret2
        exact ⟨rfl, rfl⟩
      · have p3a : decide ((wrap64 (a1 + a2)) ≥ 0) = false := decide_eq_false p3
        have p3b : decide ((wrap64 (a1 + a2)) < 0) = true := decide_eq_true (by omega)
        have hv : haspref03_Whole.add a1 a2 (wrap64 (a1 + a2)) = (wrap64 (a1 + a2), (0 : Int)) := if_neg (by omega)
        rw [hv]
        clear hv
        go_enter Try.func28, Try.ntmps28
        go_wp2
        go_ret2
        exact ⟨rfl, rfl⟩
  · have p1a : decide (a1 ≥ 0) = false := decide_eq_false p1
    have p1b : decide (a1 < 0) = true := decide_eq_true (by omega)
    by_cases p2 : a2 ≥ 0
    · have p2a : decide (a2 ≥ 0) = true := decide_eq_true p2
      have p2b : decide (a2 < 0) = false := decide_eq_false (by omega)
      by_cases p3 : (wrap64 (a1 + a2)) ≥ 0
      · have p3a : decide ((wrap64 (a1 + a2)) ≥ 0) = true := decide_eq_true p3
        have p3b : decide ((wrap64 (a1 + a2)) < 0) = false := decide_eq_false (by omega)
        have hv : haspref03_Whole.add a1 a2 (wrap64 (a1 + a2)) = (wrap64 (a1 + a2), (0 : Int)) := if_neg (by omega)
        rw [hv]
        clear hv
        go_enter Try.func28, Try.ntmps28
        go_wp2
        go_ret2
        exact ⟨rfl, rfl⟩
      · have p3a : decide ((wrap64 (a1 + a2)) ≥ 0) = false := decide_eq_false p3
        have p3b : decide ((wrap64 (a1 + a2)) < 0) = true := decide_eq_true (by omega)
        have hv : haspref03_Whole.add a1 a2 (wrap64 (a1 + a2)) = (wrap64 (a1 + a2), (0 : Int)) := if_neg (by omega)
        rw [hv]
        clear hv
        go_enter Try.func28, Try.ntmps28
        go_wp2
        go_ret2
        exact ⟨rfl, rfl⟩
    · have p2a : decide (a2 ≥ 0) = false := decide_eq_false p2
      have p2b : decide (a2 < 0) = true := decide_eq_true (by omega)
      by_cases p3 : (wrap64 (a1 + a2)) ≥ 0
      · have p3a : decide ((wrap64 (a1 + a2)) ≥ 0) = true := decide_eq_true p3
        have p3b : decide ((wrap64 (a1 + a2)) < 0) = false := decide_eq_false (by omega)
        have hv : haspref03_Whole.add a1 a2 (wrap64 (a1 + a2)) = ((0 : Int), (31 : Int)) := if_pos (by omega)
        rw [hv]
        clear hv
        go_enter Try.func28, Try.ntmps28
        go_wp2
        go_ret2
        exact ⟨rfl, rfl⟩
      · have p3a : decide ((wrap64 (a1 + a2)) ≥ 0) = false := decide_eq_false p3
        have p3b : decide ((wrap64 (a1 + a2)) < 0) = true := decide_eq_true (by omega)
        have hv : haspref03_Whole.add a1 a2 (wrap64 (a1 + a2)) = (wrap64 (a1 + a2), (0 : Int)) := if_neg (by omega)
        rw [hv]
        clear hv
        go_enter Try.func28, Try.ntmps28
        go_wp2
        go_ret2
        exact ⟨rfl, rfl⟩
set_option maxHeartbeats 4000000 in
set_option maxRecDepth 100000 in
theorem haspref03_Whole.w_sub (a1 a2 : Int) (w : World) :
    Calls Try.prog 28 #[.int .i64 8, .int .i64 a1, .int .i64 a2] w fun e w' => e = .returned (.tuple #[.int .i64 (haspref03_Whole.sub a1 a2 (wrap64 (a1 - a2))).1, .int .i64 (haspref03_Whole.sub a1 a2 (wrap64 (a1 - a2))).2]) ∧ w = w' := by
  by_cases p1 : a1 ≥ 0
  · have p1a : decide (a1 ≥ 0) = true := decide_eq_true p1
    have p1b : decide (a1 < 0) = false := decide_eq_false (by omega)
    by_cases p2 : a2 ≥ 0
    · have p2a : decide (a2 ≥ 0) = true := decide_eq_true p2
      have p2b : decide (a2 < 0) = false := decide_eq_false (by omega)
      by_cases p3 : (wrap64 (a1 - a2)) ≥ 0
      · have p3a : decide ((wrap64 (a1 - a2)) ≥ 0) = true := decide_eq_true p3
        have p3b : decide ((wrap64 (a1 - a2)) < 0) = false := decide_eq_false (by omega)
        have hv : haspref03_Whole.sub a1 a2 (wrap64 (a1 - a2)) = (wrap64 (a1 - a2), (0 : Int)) := if_neg (by omega)
        rw [hv]
        clear hv
        go_enter Try.func28, Try.ntmps28
        go_wp2
        go_ret2
        exact ⟨rfl, rfl⟩
      · have p3a : decide ((wrap64 (a1 - a2)) ≥ 0) = false := decide_eq_false p3
        have p3b : decide ((wrap64 (a1 - a2)) < 0) = true := decide_eq_true (by omega)
        have hv : haspref03_Whole.sub a1 a2 (wrap64 (a1 - a2)) = (wrap64 (a1 - a2), (0 : Int)) := if_neg (by omega)
        rw [hv]
        clear hv
        go_enter Try.func28, Try.ntmps28
        go_wp2
        go_ret2
        exact ⟨rfl, rfl⟩
    · have p2a : decide (a2 ≥ 0) = false := decide_eq_false p2
      have p2b : decide (a2 < 0) = true := decide_eq_true (by omega)
      by_cases p3 : (wrap64 (a1 - a2)) ≥ 0
      · have p3a : decide ((wrap64 (a1 - a2)) ≥ 0) = true := decide_eq_true p3
        have p3b : decide ((wrap64 (a1 - a2)) < 0) = false := decide_eq_false (by omega)
        have hv : haspref03_Whole.sub a1 a2 (wrap64 (a1 - a2)) = (wrap64 (a1 - a2), (0 : Int)) := if_neg (by omega)
        rw [hv]
        clear hv
        go_enter Try.func28, Try.ntmps28
        go_wp2
        go_ret2
        exact ⟨rfl, rfl⟩
      · have p3a : decide ((wrap64 (a1 - a2)) ≥ 0) = false := decide_eq_false p3
        have p3b : decide ((wrap64 (a1 - a2)) < 0) = true := decide_eq_true (by omega)
        have hv : haspref03_Whole.sub a1 a2 (wrap64 (a1 - a2)) = ((0 : Int), (31 : Int)) := if_pos (by omega)
        rw [hv]
        clear hv
        go_enter Try.func28, Try.ntmps28
        go_wp2
        go_ret2
        exact ⟨rfl, rfl⟩
  · have p1a : decide (a1 ≥ 0) = false := decide_eq_false p1
    have p1b : decide (a1 < 0) = true := decide_eq_true (by omega)
    by_cases p2 : a2 ≥ 0
    · have p2a : decide (a2 ≥ 0) = true := decide_eq_true p2
      have p2b : decide (a2 < 0) = false := decide_eq_false (by omega)
      by_cases p3 : (wrap64 (a1 - a2)) ≥ 0
      · have p3a : decide ((wrap64 (a1 - a2)) ≥ 0) = true := decide_eq_true p3
        have p3b : decide ((wrap64 (a1 - a2)) < 0) = false := decide_eq_false (by omega)
        have hv : haspref03_Whole.sub a1 a2 (wrap64 (a1 - a2)) = ((0 : Int), (31 : Int)) := if_pos (by omega)
        rw [hv]
        clear hv
        go_enter Try.func28, Try.ntmps28
        go_wp2
        go_ret2
        exact ⟨rfl, rfl⟩
      · have p3a : decide ((wrap64 (a1 - a2)) ≥ 0) = false := decide_eq_false p3
        have p3b : decide ((wrap64 (a1 - a2)) < 0) = true := decide_eq_true (by omega)
        have hv : haspref03_Whole.sub a1 a2 (wrap64 (a1 - a2)) = (wrap64 (a1 - a2), (0 : Int)) := if_neg (by omega)
        rw [hv]
        clear hv
        go_enter Try.func28, Try.ntmps28
        go_wp2
        go_ret2
        exact ⟨rfl, rfl⟩
    · have p2a : decide (a2 ≥ 0) = false := decide_eq_false p2
      have p2b : decide (a2 < 0) = true := decide_eq_true (by omega)
      by_cases p3 : (wrap64 (a1 - a2)) ≥ 0
      · have p3a : decide ((wrap64 (a1 - a2)) ≥ 0) = true := decide_eq_true p3
        have p3b : decide ((wrap64 (a1 - a2)) < 0) = false := decide_eq_false (by omega)
        have hv : haspref03_Whole.sub a1 a2 (wrap64 (a1 - a2)) = (wrap64 (a1 - a2), (0 : Int)) := if_neg (by omega)
        rw [hv]
        clear hv
        go_enter Try.func28, Try.ntmps28
        go_wp2
        go_ret2
        exact ⟨rfl, rfl⟩
      · have p3a : decide ((wrap64 (a1 - a2)) ≥ 0) = false := decide_eq_false p3
        have p3b : decide ((wrap64 (a1 - a2)) < 0) = true := decide_eq_true (by omega)
        have hv : haspref03_Whole.sub a1 a2 (wrap64 (a1 - a2)) = (wrap64 (a1 - a2), (0 : Int)) := if_neg (by omega)
        rw [hv]
        clear hv
        go_enter Try.func28, Try.ntmps28
        go_wp2
        go_ret2
        exact ⟨rfl, rfl⟩
set_option maxHeartbeats 4000000 in
set_option maxRecDepth 100000 in
theorem haspref03_Whole.w_neg (a1 a2 : Int) (w : World) :
    Calls Try.prog 28 #[.int .i64 13, .int .i64 a1, .int .i64 a2] w fun e w' => e = .returned (.tuple #[.int .i64 (haspref03_Whole.neg a1).1, .int .i64 (haspref03_Whole.neg a1).2]) ∧ w = w' := by
  by_cases p1 : a1 = 0
  · subst p1
    have hv : haspref03_Whole.neg 0 = ((0 : Int), (0 : Int)) := rfl
    rw [hv]
    clear hv
    have p2 : wrap64 (-0) = 0 := by decide +kernel
    go_enter Try.func28, Try.ntmps28
    go_wp2
    go_ret2
    exact ⟨by simp, rfl⟩
  · have p1a : (a1 == 0) = false := beq_eq_false_iff_ne.mpr p1
    have p1b : (a1 != 0) = true := bne_iff_ne.mpr p1
    by_cases p2 : wrap64 (-a1) = a1
    · have hv : haspref03_Whole.neg a1 = ((0 : Int), (31 : Int)) := by unfold haspref03_Whole.neg; rw [if_neg p1, if_pos p2]
      rw [hv]
      clear hv
      have p2a : (wrap64 (-a1) == a1) = true := beq_iff_eq.mpr p2
      have p2b : (wrap64 (-a1) != a1) = false := bne_eq_false_iff_eq.mpr p2
      clear p2
      go_enter Try.func28, Try.ntmps28
      go_wp2
      go_ret2
      exact ⟨rfl, rfl⟩
    · have hv : haspref03_Whole.neg a1 = (wrap64 (-a1), (0 : Int)) := by unfold haspref03_Whole.neg; rw [if_neg p1, if_neg p2]
      rw [hv]
      clear hv
      have p2a : (wrap64 (-a1) == a1) = false := beq_eq_false_iff_ne.mpr p2
      have p2b : (wrap64 (-a1) != a1) = true := bne_iff_ne.mpr p2
      clear p2
      go_enter Try.func28, Try.ntmps28
      go_wp2
      go_ret2
      exact ⟨rfl, rfl⟩
set_option maxHeartbeats 4000000 in
set_option maxRecDepth 100000 in
theorem haspref03_Whole.w_div (a1 a2 : Int) (w : World) :
    Calls Try.prog 28 #[.int .i64 10, .int .i64 a1, .int .i64 a2] w fun e w' => e = .returned (.tuple #[.int .i64 ((if a2 = 0 then ((0 : Int), (32 : Int)) else if a2 = -1 then haspref03_Whole.neg a1 else (wrap64 (Int.tdiv a1 a2), 0))).1, .int .i64 ((if a2 = 0 then ((0 : Int), (32 : Int)) else if a2 = -1 then haspref03_Whole.neg a1 else (wrap64 (Int.tdiv a1 a2), 0))).2]) ∧ w = w' := by
  by_cases p1 : a2 = 0
  · subst p1
    rw [if_pos rfl]
    go_enter Try.func28, Try.ntmps28
    go_wp2
    go_ret2
    exact ⟨rfl, rfl⟩
  · rw [if_neg p1]
    have p1a : (a2 == 0) = false := beq_eq_false_iff_ne.mpr p1
    have p1b : (a2 != 0) = true := bne_iff_ne.mpr p1
    by_cases p2 : a2 = -1
    · subst p2
      rw [if_pos rfl]
      go_enter Try.func28, Try.ntmps28
      go_wp2_with fail
      refine (haspref03_Whole.w_neg a1 0 _).mono ?_
      rintro e w1 ⟨rfl, rfl⟩
      go_wp2
      go_ret2
      exact ⟨rfl, rfl⟩
    · rw [if_neg p2]
      have p2a : (a2 == -1) = false := beq_eq_false_iff_ne.mpr p2
      have p2b : (a2 != -1) = true := bne_iff_ne.mpr p2
      go_enter Try.func28, Try.ntmps28
      go_wp2
      go_ret2
      exact ⟨rfl, rfl⟩
set_option maxHeartbeats 4000000 in
set_option maxRecDepth 100000 in
theorem haspref03_Whole.w_mod (a1 a2 : Int) (w : World) :
    Calls Try.prog 28 #[.int .i64 11, .int .i64 a1, .int .i64 a2] w fun e w' => e = .returned (.tuple #[.int .i64 ((if a2 = 0 then ((0 : Int), (32 : Int)) else if a2 = -1 then (0, 0) else (wrap64 (a1 - wrap64 (wrap64 (Int.tdiv a1 a2) * a2)), 0))).1, .int .i64 ((if a2 = 0 then ((0 : Int), (32 : Int)) else if a2 = -1 then (0, 0) else (wrap64 (a1 - wrap64 (wrap64 (Int.tdiv a1 a2) * a2)), 0))).2]) ∧ w = w' := by
  by_cases p1 : a2 = 0
  · subst p1
    rw [if_pos rfl]
    go_enter Try.func28, Try.ntmps28
    go_wp2
    go_ret2
    exact ⟨rfl, rfl⟩
  · rw [if_neg p1]
    have p1a : (a2 == 0) = false := beq_eq_false_iff_ne.mpr p1
    have p1b : (a2 != 0) = true := bne_iff_ne.mpr p1
    by_cases p2 : a2 = -1
    · subst p2
      rw [if_pos rfl]
      go_enter Try.func28, Try.ntmps28
      go_wp2
      go_ret2
      exact ⟨rfl, rfl⟩
    · rw [if_neg p2]
      have p2a : (a2 == -1) = false := beq_eq_false_iff_ne.mpr p2
      have p2b : (a2 != -1) = true := bne_iff_ne.mpr p2
      go_enter Try.func28, Try.ntmps28
      go_wp2
      go_ret2
      exact ⟨rfl, rfl⟩
set_option maxHeartbeats 4000000 in
set_option maxRecDepth 100000 in
theorem haspref03_Whole.w_mul (a1 a2 : Int) (w : World) :
    Calls Try.prog 28 #[.int .i64 9, .int .i64 a1, .int .i64 a2] w fun e w' => e = .returned (.tuple #[.int .i64 (if ((haspref03_mul.f a1 a2).getD (0, false)).2 = true then (((haspref03_mul.f a1 a2).getD (0, false)).1, (0 : Int)) else (0, 31)).1, .int .i64 (if ((haspref03_mul.f a1 a2).getD (0, false)).2 = true then (((haspref03_mul.f a1 a2).getD (0, false)).1, (0 : Int)) else (0, 31)).2]) ∧ Drawn0 w w' := by
  obtain ⟨⟨m, ok⟩, hm⟩ : ∃ p, haspref03_mul.f a1 a2 = some p := ⟨_, rfl⟩
  rw [hm, Option.getD_some]
  have HM := Lib.hid hm
  clear hm
  cases ok
  all_goals
    simp only [if_true, Bool.false_eq_true, if_false]
    go_enter Try.func28, Try.ntmps28
    go_wp2_with fail
    refine (haspref03_mul.calls a1 a2 _ _ _ HM.out).mono ?_
    rintro e w1 ⟨rfl, hd⟩
    have HD := Aside0.mk hd
    clear hd
    go_wp2
    go_ret2
    exact ⟨rfl, HD.out⟩
set_option maxHeartbeats 4000000 in
set_option maxRecDepth 100000 in
theorem haspref03_Whole.w_none (a0 a1 a2 : Int) (h7 : (a0 == 7) = false) (h8 : (a0 == 8) = false) (h9 : (a0 == 9) = false) (h10 : (a0 == 10) = false) (h11 : (a0 == 11) = false) (h13 : (a0 == 13) = false) (w : World) :
    Calls Try.prog 28 #[.int .i64 a0, .int .i64 a1, .int .i64 a2] w fun e w' => e = .returned (.tuple #[.int .i64 0, .int .i64 0]) ∧ w = w' := by
  go_enter Try.func28, Try.ntmps28
  go_wp2
  go_ret2
  exact ⟨rfl, rfl⟩
theorem haspref03_Whole.calls (a0 a1 a2 : Int) (r1 r2 : Int) (w : World) (h : haspref03_Whole.f a0 a1 a2 = some (r1, r2)) :
    Calls Try.prog 28 #[.int .i64 a0, .int .i64 a1, .int .i64 a2] w fun e w' => e = .returned (.tuple #[.int .i64 r1, .int .i64 r2]) ∧ Drawn0 w w' := by
  have h2 : haspref03_Whole.g a0 a1 a2 = (r1, r2) := Option.some.inj h
  have e1 : (haspref03_Whole.g a0 a1 a2).1 = r1 := by rw [h2]
  have e2 : (haspref03_Whole.g a0 a1 a2).2 = r2 := by rw [h2]
  rw [← e1, ← e2]
  clear h h2 e1 e2
  unfold haspref03_Whole.g
  by_cases c7 : a0 = 7
  · subst c7
    rw [if_pos rfl]
    exact (haspref03_Whole.w_add a1 a2 w).mono fun _ _ ⟨he, hw⟩ => ⟨he, hw ▸ Drawn0.refl _⟩
  rw [if_neg c7]
  by_cases c8 : a0 = 8
  · subst c8
    rw [if_pos rfl]
    exact (haspref03_Whole.w_sub a1 a2 w).mono fun _ _ ⟨he, hw⟩ => ⟨he, hw ▸ Drawn0.refl _⟩
  rw [if_neg c8]
  by_cases c9 : a0 = 9
  · subst c9
    rw [if_pos rfl]
    exact haspref03_Whole.w_mul a1 a2 w
  rw [if_neg c9]
  by_cases c13 : a0 = 13
  · subst c13
    rw [if_pos rfl]
    exact (haspref03_Whole.w_neg a1 a2 w).mono fun _ _ ⟨he, hw⟩ => ⟨he, hw ▸ Drawn0.refl _⟩
  rw [if_neg c13]
  by_cases c10 : a0 = 10
  · subst c10
    rw [if_pos rfl]
    exact (haspref03_Whole.w_div a1 a2 w).mono fun _ _ ⟨he, hw⟩ => ⟨he, hw ▸ Drawn0.refl _⟩
  rw [if_neg c10]
  by_cases c11 : a0 = 11
  · subst c11
    rw [if_pos rfl]
    exact (haspref03_Whole.w_mod a1 a2 w).mono fun _ _ ⟨he, hw⟩ => ⟨he, hw ▸ Drawn0.refl _⟩
  rw [if_neg c11]
  have b := fun (n : Int) (h : ¬ a0 = n) => (beq_eq_false_iff_ne (a := a0) (b := n)).mpr h
  exact (haspref03_Whole.w_none a0 a1 a2 (b 7 c7) (b 8 c8) (b 9 c9) (b 10 c10) (b 11 c11) (b 13 c13) w).mono fun _ _ ⟨he, hw⟩ => ⟨he, hw ▸ Drawn0.refl _⟩
end Go.Proofs.Ytbdengnadgofmaa.V
