import Derived.Test.YtfnmploaklboiaaZkP5
import Derived.Test.YtfnmploaklboiaaZkVx6
/- Layer 22: the plain law, seventh part: the document's Check, but for changes. -/
namespace Go.Proofs.Ytfnmploaklboiaa
open Go.RowKit Go.Proofs.YtfnmploaklboiaaW.PrintWords V A
set_option linter.unusedSimpArgs false
set_option linter.unusedVariables false
theorem check_loop (t : ByteArray) (l : List S33) (hl : l.length < 140737488355328) (cb : Bool) (K : Nat) (hK : l.length + 3 < K) (hch : ∀ k, K ≤ k → haspref22_changes.f k t l = some cb) :
    ∀ (n i k : Nat) (p : Bool), i + n = l.length → 2 * n + K < k → (i = 0 → p = true) → (0 < i → p = ((rd_T33 l ((i : Int) - 1)).f0 == 1)) →
      haspref22_Check.l0 k (l.length : Int) (i : Int) t l = some (if ((l.drop i).all (rightB l.length) && (lkB p (l.drop i) && ((l.drop i).all (readR l) && cb))) = true then 0 else 240)
  | n, i, 0, p, hi, hk, h0, h1 => by omega
  | 0, i, k + 1, p, hi, hk, h0, h1 => by
    rw [haspref22_Check.l0, if_neg (by omega), List.drop_eq_nil_of_le (by omega), hch k (by omega), Option.bind_some]
    cases cb <;> rfl
  | n + 1, i, 1, p, hi, hk, h0, h1 => by omega
  | n + 1, i, k + 2, p, hi, hk, h0, h1 => by
    have h : i < l.length := by omega
    have ih := check_loop t l hl cb K hK hch n (i + 1) k (l[i].f0 == 1) (by omega) (by omega) (fun q => by omega) (fun _ => by
      rw [show (((i + 1 : Nat) : Int) - 1) = (i : Int) by omega, rd33_at l i h])
    obtain ⟨k3, hk3⟩ : ∃ j, k + 1 = j + 3 := ⟨k - 2, by omega⟩
    have hr : haspref22_right.f (k + 1) l[i].f0 l[i].f1 l[i].f2 l[i].f3 l[i].f4 l[i].f5 l[i].f6 l[i].f7 l[i].f8 l[i].f9 l[i].f10 l[i].f11 l[i].f12 l[i].f13 (l.length : Int) = some (rightB l.length l[i]) := by
      rw [hk3]; exact right_eq k3 _ _
    have hd := read_eq t l hl l[i] (List.getElem_mem h) k (by omega)
    rw [haspref22_Check.l0, if_pos (by omega), if_pos (by omega), if_pos (by omega), rd33_at l i h, hr, Option.bind_some, List.drop_eq_getElem_cons h, List.all_cons, List.all_cons, lkB]
    cases hB : rightB l.length l[i] with
    | false => rfl
    | true =>
      rw [if_pos (c := (true = true)) rfl]
      have j2f : haspref22_Check.j2 (k + 1) (l.length : Int) (i : Int) false t l l[i].f0 l[i].f1 l[i].f2 l[i].f3 l[i].f4 l[i].f5 l[i].f6 l[i].f7 l[i].f8 l[i].f9 l[i].f10 l[i].f11 l[i].f12 l[i].f13 =
          some (if (readR l l[i] && ((l.drop (i + 1)).all (rightB l.length) && (lkB (l[i].f0 == 1) (l.drop (i + 1)) && ((l.drop (i + 1)).all (readR l) && cb)))) = true then 0 else 240) := by
        rw [haspref22_Check.j2, if_neg (c := (false = true)) (by decide), hd, Option.bind_some]
        cases readR l l[i] with
        | false => rfl
        | true => rw [if_pos (c := (true = true)) rfl, w64n i (by omega), ih, Bool.true_and]
      have fin : ∀ a b c d e g : Bool, ((true && b) && ((e && c) && ((a && d) && g))) = (e && (a && (b && (c && (d && g))))) := by decide
      rw [fin]
      by_cases h1' : l[i].f0 = 1
      · rw [if_pos h1', if_pos h1']
        by_cases hz : i = 0
        · rw [show decide ((i : Int) > 0) = false from decide_eq_false (by omega), j2f, h0 hz, Bool.true_and]
        · rw [show decide ((i : Int) > 0) = true from decide_eq_true (by omega), haspref22_Check.j2, if_pos (c := (true = true)) rfl]
          have ew : wrap64 ((i : Int) - 1) = (i : Int) - 1 := by simp only [wrap64]; omega
          rw [ew, if_pos (by omega), if_pos (by omega)]
          have hp := h1 (by omega)
          by_cases hq : (rd_T33 l ((i : Int) - 1)).f0 = 1
          · rw [haspref22_Check.j2, if_neg (c := (false = true)) (by decide)] at j2f
            rw [if_pos hq, j2f, hp, hq]; rfl
          · have e : p = false := by rw [hp]; simp [hq]
            rw [if_neg hq, e]; rfl
      · rw [if_neg h1', if_neg h1', j2f, Bool.true_and]
end Go.Proofs.Ytfnmploaklboiaa
