import Derived.Test.YtnjobnkkpfaigaaZfP11
/- Layer 6: the reference's Decode is the program's. -/
namespace Go.Proofs.Ytnjobnkkpfaigaa
open Go.RowKit Go.Proofs.YtnjobnkkpfaigaaW.PrintWords Go.Proofs.YtnjobnkkpfaigaaW.PrintMore Fl V A
set_option linter.unusedSimpArgs false
set_option linter.unusedVariables false
theorem div_in (y : Int) (h0 : 0 ≤ y) (h1 : y < 256) (r : Nat) : 0 ≤ y / 2 ^ r ∧ y / 2 ^ r < 256 := by
  have hp : (0 : Int) < 2 ^ r := Int.pow_pos (by decide)
  refine ⟨Int.ediv_nonneg h0 (by omega), ?_⟩
  have := Int.ediv_le_self (2 ^ r) h0
  omega
theorem bitC_eq (y : Int) (i : Nat) (h0 : 0 ≤ y) (h1 : y < 256) : bitC y i = decide (y / 2 ^ (i % 8) % 2 = 0) := by
  unfold bitC
  obtain ⟨d0, d1⟩ := div_in y h0 h1 (i % 8)
  rw [u8_and _ 1 d0 d1 (by omega) (by omega), show (1 : Int).toNat = 1 from rfl, nat_mask1, Bool.eq_iff_iff, beq_iff_eq, decide_eq_true_eq]
  omega
end Go.Proofs.Ytnjobnkkpfaigaa
