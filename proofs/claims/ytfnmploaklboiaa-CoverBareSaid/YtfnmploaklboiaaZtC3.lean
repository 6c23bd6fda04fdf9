import Derived.Test.YtfnmploaklboiaaZtC2
/- cover: slices.Index and Contains over numbers. -/
namespace Go.Proofs.Ytfnmploaklboiaa
open Go.RowKit Go.Proofs.YtfnmploaklboiaaW.PrintWords A
set_option linter.unusedSimpArgs false
set_option linter.unusedVariables false
theorem i64_at {W : World} {A : Option Addr} {n : Nat} {ys : List Int} (h : Kd.C (Kd.int .i64) W A n ys) (i : Int) (h0 : 0 ≤ i) (h1 : i < n) : ∃ ad : Addr, A = some ad ∧ W.cell? (ad.add i.toNat) = some (.int .i64 (ys.getD i.toNat 0)) := by
  obtain ⟨ad, c, e, _, hK, hc0⟩ := Kd.C_get h 0 i h0 h1
  have hc : ∀ k u, c[k]? = some u → W.cell? (ad.add (i.toNat * 1 + k)) = some u := hc0
  obtain rfl : c = _ := hK
  have := hc 0 _ rfl
  exact ⟨ad, e, by simpa using this⟩
/-- The first place from place i on at which p holds; -1: none. -/
def idxA {α : Type} (p : α → Bool) : List α → Nat → Int
  | [], _ => -1
  | x :: t, i => if p x = true then (i : Int) else idxA p t (i + 1)
theorem idxA_any {α : Type} (p : α → Bool) : ∀ (l : List α) (i : Nat), decide (idxA p l i ≥ 0) = l.any p
  | [], i => by rw [idxA]; rfl
  | x :: t, i => by
    rw [idxA, List.any_cons]
    cases h : p x
    · rw [if_neg (by decide), idxA_any p t (i + 1), Bool.false_or]
    · rw [if_pos rfl, Bool.true_or]; exact decide_eq_true (by omega)
theorem w64i (i : Int) (h0 : 0 ≤ i) (h : i < 140737488355328) : wrap64 (i + 1) = i + 1 := by simp only [wrap64]; omega
theorem index_calls (A : Option Addr) (c : Nat) (xs : List Int) (v : Int) (w : World) (hl : xs.length ≤ 100000000000) (hC : Kd.C (Kd.int .i64) w A xs.length xs) :
    Calls Try.prog 39 #[.slice A xs.length c, .int .i64 v] w fun e w' => e = .returned (.int .i64 (idxA (fun y => v == y) xs 0)) ∧ w = w' := by
  have HC := Aside0.mk hC
  have HL := Aside0.mk hl
  obtain ⟨R, hR⟩ : ∃ R, idxA (fun y => v == y) xs 0 = R := ⟨_, rfl⟩
  rw [hR]
  have HR := Aside0.mk hR
  clear hC hl hR
  go_enter Try.func39, Try.ntmps39
  go_wp2
  go_loopg [8] xs.length (fun kq v8 w' => ∃ i : Int, v8 = .int .i64 i ∧ Aside0 (0 ≤ i ∧ i ≤ xs.length ∧ (kq : Int) = xs.length - i) ∧ Aside0 (idxA (fun y => v == y) (xs.drop i.toNat) i.toNat = R) ∧ Aside0 (w = w'))
  case atStart => exact ⟨0, rfl, ⟨by omega, by omega, by omega⟩, ⟨by simpa using HR.out⟩, ⟨rfl⟩⟩
  case round =>
    clear HR
    obtain ⟨i, rfl, HI, HA, HW⟩ := hrel
    obtain ⟨h0, h1, h2⟩ := HI.out
    obtain rfl := HW.out
    by_cases hlt : i < xs.length
    · obtain ⟨ad, e, hx⟩ := i64_at HC.out i h0 hlt
      cases e
      have q0 := eq_true h0
      have q1 := eq_true hlt
      have b1 : decide (i < (xs.length : Int)) = true := decide_eq_true hlt
      have hd : xs.drop i.toNat = xs.getD i.toNat 0 :: xs.drop (i.toNat + 1) := by
        have hh : i.toNat < xs.length := by omega
        rw [List.drop_eq_getElem_cons hh, List.getD_eq_getElem?_getD, List.getElem?_eq_getElem hh]; rfl
      have ha := HA.out
      rw [hd, idxA] at ha
      obtain ⟨y, hy⟩ : ∃ y, xs.getD i.toNat 0 = y := ⟨_, rfl⟩
      rw [hy] at ha hx
      have HA2 := Aside0.mk ha
      have HD := Aside0.mk hlt
      clear ha hd HA h1 h2 hy
      cases hc : (v == y)
      · clear hlt h0
        go_wp2
        go_roundg (xs.length - i.toNat - 1)
        case measure => obtain ⟨h0, h1, h2⟩ := HI.out; have := HD.out; omega
        case rel =>
          obtain ⟨h0, h1, h2⟩ := HI.out
          have hl := HL.out
          have hd := HD.out
          refine ⟨i + 1, ?_, ⟨by omega, by omega, by omega⟩, ⟨?_⟩, ⟨rfl⟩⟩
          · rw [w64i i h0 (by omega)]
          · have := HA2.out
            rw [hc, if_neg (by decide)] at this
            rw [show (i + 1).toNat = i.toNat + 1 by omega]
            exact this
      · clear hlt h0
        go_wp2
        go_ret
        have := HA2.out
        rw [hc, if_pos rfl] at this
        obtain ⟨h0, h1, h2⟩ := HI.out
        exact ⟨ret_int (by omega), rfl⟩
    · have b1 : decide (i < (xs.length : Int)) = false := decide_eq_false hlt
      have ha := HA.out
      rw [List.drop_of_length_le (by omega), idxA] at ha
      have HA2 := Aside0.mk ha
      clear ha HA h1 h2 hlt h0
      go_wp2
      go_ret
      exact ⟨ret_int HA2.out, rfl⟩
theorem contains_calls (A : Option Addr) (c : Nat) (xs : List Int) (v : Int) (w : World) (hl : xs.length ≤ 100000000000) (hC : Kd.C (Kd.int .i64) w A xs.length xs) :
    Calls Try.prog 37 #[.slice A xs.length c, .int .i64 v] w fun e w' => e = .returned (.bool (xs.any fun y => v == y)) ∧ w = w' := by
  have HC := Aside0.mk hC
  have HL := Aside0.mk hl
  clear hC hl
  go_enter Try.func37, Try.ntmps37
  go_wp2_with (first | (go_at_call 39; (with_reducible refine (index_calls A c xs v _ HL.out HC.out).mono ?_); rintro e w' ⟨rfl, rfl⟩))
  go_ret
  exact ⟨ret_bool (idxA_any (fun y => v == y) xs 0), rfl⟩
end Go.Proofs.Ytfnmploaklboiaa
