import Derived.Test.YtgbjilcfgpbcgaaZpH19
import Derived.Test.YtgbjilcfgpbcgaaZpH20
/- Layer 8: the map of places; the plain law of HeapOnce. -/
namespace Go.Proofs.Ytgbjilcfgpbcgaa
open Go.RowKit Go.Proofs.YtgbjilcfgpbcgaaW.PrintWords
open Go.Maps (Keyed)
set_option linter.unusedSimpArgs false
set_option linter.unusedVariables false
theorem find_least : ∀ (xs : List Int) (a y : Int), xs.Pairwise (· < ·) → xs.find? (fun x => decide (x > a)) = some y → ∀ z ∈ xs, a < z → y ≤ z
  | [], a, y, _, h, _, hz, _ => by cases hz
  | x :: r, a, y, hp, h, z, hz, hl => by
    obtain ⟨h1, h2⟩ := List.pairwise_cons.1 hp
    rw [List.find?_cons] at h
    by_cases hx : x > a
    · rw [decide_eq_true hx] at h
      obtain rfl : x = y := Option.some.inj h
      rcases List.mem_cons.1 hz with rfl | hz
      · exact Int.le_refl _
      · exact Int.le_of_lt (h1 z hz)
    · rw [decide_eq_false hx] at h
      rcases List.mem_cons.1 hz with rfl | hz
      · exact absurd hl hx
      · exact find_least r a y h2 h z hz hl
theorem H8.grown {B : Nat} {w w' : World} {hb : Nat} {S : St} {N : Int} {O : Nat → Prop} (h : H8 B w hb S N O) {b : Nat} (hg : w.grownBy w' (some b)) (hn : ¬ O b) : H8 B w' hb S N O :=
  ⟨h.at_.keep fun k ho hl => hg.block k hl fun e => hn (by injection e with e; rw [← e]; exact ho), fun k ho => ⟨(h.own k ho).1, Nat.lt_of_lt_of_le (h.own k ho).2 hg.size⟩, Nat.le_trans h.base hg.size, h.inv, h.rows⟩
theorem back_last (S : St) (id : Int) (row : List Int) : (if backB S id = true then layP S id row else S).last = S.last := by
  split
  · exact lay_last S id row
  · rfl
end Go.Proofs.Ytgbjilcfgpbcgaa
