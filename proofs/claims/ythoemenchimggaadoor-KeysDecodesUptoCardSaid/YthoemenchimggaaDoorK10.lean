/- Package bytes: ReplaceAll; package keys: eight. -/
import Derived.Test.YthoemenchimggaaDoorK9
import Derived.Test.YthoemenchimggaaDoorK3
namespace Go.Proofs.YthoemenchimggaaDoor
open Go.RowKit Go.Proofs.YthoemenchimggaaDoorW.PrintWords Go.Proofs.YthoemenchimggaaDoorW.PrintLast Go.Proofs.YthoemenchimggaaDoorW.PrintMore A Fl
set_option linter.unusedVariables false
set_option linter.unusedSimpArgs false
theorem replace_calls (A A1 A2 : Option Addr) (c c1 c2 : Nat) (xs : List Int) (w : World) (hn : xs.length ≤ 70000000000000) (hc : xs.length ≤ c) (hx : ∀ x ∈ xs, 0 ≤ x ∧ x < 256) (h : kb.C w A xs.length xs) (h1 : kb.C w A1 1 [0]) (h2 : kb.C w A2 2 [0, 255]) :
    Calls Tryd.prog 37 #[.slice A xs.length c, .slice A1 1 c1, .slice A2 2 c2, .int .i64 (-1)] w (RepPost w (Lib.bytesOf xs)) := by
  by_cases h0 : 0 < (Lib.bytesOf xs).count 0
  · exact replace_some A A1 A2 c c1 c2 xs w hn hc hx h h1 h2 h0
  · exact replace_none A A1 A2 xs.length c c1 c2 xs w rfl (by omega) hc hx h h1 (by omega)
theorem replaceall_calls (A A1 A2 : Option Addr) (c c1 c2 : Nat) (xs : List Int) (w : World) (hn : xs.length ≤ 70000000000000) (hc : xs.length ≤ c) (hx : ∀ x ∈ xs, 0 ≤ x ∧ x < 256) (h : kb.C w A xs.length xs) (h1 : kb.C w A1 1 [0]) (h2 : kb.C w A2 2 [0, 255]) :
    Calls Tryd.prog 26 #[.slice A xs.length c, .slice A1 1 c1, .slice A2 2 c2] w (RepPost w (Lib.bytesOf xs)) := by
  have R := Aside0.mk (replace_calls A A1 A2 c c1 c2 xs w hn hc hx h h1 h2)
  clear h h1 h2 hx
  go_enter Tryd.func26, Tryd.ntmps26
  go_wp2_with fail
  refine R.out.mono ?_
  rintro e w' ⟨A', c', rfl, hl, hC, hB⟩
  go_wp2_with fail
  go_ret
  exact ⟨A', c', rfl, hl, hC, hB⟩
/-- A number's eight bytes, that of the greatest weight first. -/
def at8u (u : Int) (j : Nat) : Int := u / 2 ^ (56 - 8 * j) % 256
def eightB (u : Int) : List Int := (List.range 8).map (at8u u)
theorem eight_take (u : Int) (j : Nat) (h : j < 8) : (eightB u).take (j + 1) = (eightB u).take j ++ [at8u u j] := by
  rw [List.take_succ_eq_append_getElem (by simpa [eightB] using h)]
  simp [eightB]
theorem round56 (j : Nat) : (56 : Int) - 8 * ((j + 1 : Nat) : Int) = 56 - 8 * (j : Int) - 8 := by omega
set_option maxHeartbeats 2000000 in
theorem eight_calls (base : Nat) (A : Option Addr) (c : Nat) (xs : List Int) (u : Int) (w0 w : World) (hl : xs.length ≤ 140000000000000) (h : kb.R 5 w base (fun _ => True) (.slice A xs.length c) xs) (hB : Below base w0 w) (hs : base ≤ w.heap.size) :
    Calls Tryd.prog 24 #[.slice A xs.length c, .int .u64 u] w fun e w' => ∃ v, e = .returned v ∧ kb.R 5 w' base (fun _ => True) v (xs ++ eightB u) ∧ Below base w0 w' := by
  have H := Aside0.mk h
  have HB := Aside0.mk hB
  have HS := Aside0.mk hs
  have HL := Aside0.mk hl
  clear h hB hs hl
  go_enter Tryd.func24, Tryd.ntmps24
  go_wp2_with fail
  go_loopg [0, 5] 8 (fun gk v0 v5 wr => ∃ (j : Nat) (ys : List Int), j ≤ 8 ∧ gk = 8 - j ∧ v5 = .int .i64 (56 - 8 * (j : Int)) ∧ Aside0 (ys = xs ++ (eightB u).take j) ∧ Aside0 (kb.R 5 wr base (fun _ => True) v0 ys) ∧ Aside0 (Below base w0 wr) ∧ Aside0 (base ≤ wr.heap.size))
  case atStart => exact ⟨0, xs, by omega, rfl, rfl, ⟨by simp⟩, H, HB, HS⟩
  case round =>
    obtain ⟨j, ys, hj, rfl, rfl, HY, HO, HB', HS'⟩ := hrel
    obtain ⟨Av, cv, rfl⟩ := Kd.R_slice HO.out
    by_cases hlt : j < 8
    · have clt : decide ((56 : Int) - 8 * (j : Int) ≥ 0) = true := decide_eq_true (by omega)
      have hyl : ys.length ≤ 140000000000010 := by
        have h1 := HY.out
        have h2 := HL.out
        rw [h1, List.length_append, List.length_take]
        omega
      have ht : ys ++ [at8u u j] = xs ++ (eightB u).take (j + 1) := by
        rw [HY.out, eight_take u j hlt, List.append_assoc]
      have HT := Aside0.mk ht
      clear ht
      have HAL : Aside0 ((ys.length + 1) * 1 ≤ 140737488355328) := ⟨by omega⟩
      go_wp2_with (first | ((with_reducible refine gate_builtin (b := .append) (xs := #[.tmp 10, .tmp 15]) rfl ?_); at_builtin; refine Kd.R_append kb (w0 := wr) base rfl (.tmp 10) (.tmp 15) 25 5 (.int .u8 0) 1 rfl Tryd.underlying25 info5' rfl (by decide) (by omega) (.slice Av ys.length cv) ys (at8u u j) [.int .u8 (u / 2 ^ (56 - 8 * j) % 256)] (fun _ => True) (fun _ => False) rfl rfl ?aP (fun _ hk => hk.elim) ?aF ?aO ?aB ?aS ?aL ?_; (case aP => exact rfl); (case aF => exact fun _ _ => trivial); (case aO => exact HO.out); (case aB => exact Below.refl _ _); (case aS => exact HS'.out); (case aL => exact HAL.out); intro v1 w1 hO1 hB1 _ _; have HO1 := Aside0.mk hO1; have HB1 := Aside0.mk hB1; clear hO1 hB1))
      go_roundg (7 - j)
      case measure => omega
      case rel => exact ⟨j + 1, ys ++ [at8u u j], by omega, by omega, by rw [round56], HT, HO1, ⟨HB'.out.trans HB1.out⟩, ⟨Nat.le_trans HS'.out HB1.out.size⟩⟩
    · have clt : decide ((56 : Int) - 8 * (j : Int) ≥ 0) = false := decide_eq_false (by omega)
      have hj8 : j = 8 := by omega
      subst hj8
      go_wp2_with fail
      go_ret
      refine ⟨_, rfl, ?_, HB'.out⟩
      have h8 : (eightB u).take 8 = eightB u := List.take_of_length_le (by simp [eightB])
      have hy := HY.out
      rw [h8] at hy
      exact hy ▸ HO.out
end Go.Proofs.YthoemenchimggaaDoor
