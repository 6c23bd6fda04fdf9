/- Package bytes: Replace of one byte by two, all of them: the plain facts, and cuts of a slice. -/
import Derived.Test.YthoemenchimggaaDoorK7
namespace Go.Proofs.YthoemenchimggaaDoor
open Go.RowKit Go.Proofs.YthoemenchimggaaDoorW.PrintWords Go.Proofs.YthoemenchimggaaDoorW.PrintLast Go.Proofs.YthoemenchimggaaDoorW.PrintMore A Fl
set_option linter.unusedVariables false
set_option linter.unusedSimpArgs false
/-- Each byte 0 followed by 255. -/
def escB : List UInt8 → List UInt8
  | [] => []
  | b :: l => if b = 0 then 0 :: 255 :: escB l else b :: escB l
theorem escB_append : ∀ a b : List UInt8, escB (a ++ b) = escB a ++ escB b
  | [], b => rfl
  | x :: a, b => by
    rw [List.cons_append, escB, escB, escB_append a b]
    split <;> simp
theorem escB_none : ∀ l : List UInt8, l.count 0 = 0 → escB l = l
  | [], _ => rfl
  | b :: l, h => by
    rw [List.count_cons] at h
    have hb : ¬ b = 0 := by
      intro e
      subst e
      simp at h
    rw [escB, if_neg hb, escB_none l (by omega)]
theorem escB_length : ∀ l : List UInt8, (escB l).length = l.length + l.count 0
  | [] => rfl
  | b :: l => by
    rw [escB, List.count_cons]
    by_cases h : b = 0
    · rw [if_pos h]; subst h; simp [escB_length l]; omega
    · rw [if_neg h]; simp [h, escB_length l]; omega
theorem idx_ge : ∀ l : List UInt8, 0 < l.count 0 → ∃ k : Nat, Lib.indexByte l 0 = k ∧ k < l.length ∧ (l.take k).count 0 = 0 ∧ l.drop k = 0 :: l.drop (k + 1) ∧ (l.drop (k + 1)).count 0 + 1 = l.count 0
  | [], h => by simp at h
  | b :: l, h => by
    by_cases hb : b = 0
    · subst hb
      exact ⟨0, by simp [Lib.indexByte], by simp, by simp, by simp, by simp [List.count_cons]⟩
    · have hc : (b :: l).count 0 = l.count 0 := by rw [List.count_cons]; simp [hb]
      rw [hc] at h ⊢
      obtain ⟨k, h1, h2, h3, h4, h5⟩ := idx_ge l h
      refine ⟨k + 1, ?_, by simpa using h2, ?_, by simpa using h4, by simpa using h5⟩
      · rw [Lib.indexByte, if_neg (by simpa using hb), h1, if_neg (by first | (simp; done) | (simp; omega))]
        omega
      · rw [List.take_succ_cons, List.count_cons, h3]
        simp [hb]
theorem elem25 : Tryd.prog.elem 25 = 5 := by simp [Program.elem, Tryd.underlying25]
theorem size5 (W : World) : (Go.sizeOf 5).run Tryd.prog W = .ok 1 W := by
  obtain ⟨i, hi, hz⟩ := Option.map_eq_some_iff.1 info5'
  simp only [Prod.mk.injEq] at hz
  simp [Go.sizeOf, typeInfo, hi, hz.2.1, Result.andThen]
theorem cut_lh (A : Option Addr) (c : Nat) (xs : List Int) (l h : Nat) (hlh : l ≤ h) (hh : h ≤ xs.length) (hc : xs.length ≤ c) :
    ∃ A' : Option Addr, (∀ W, (Instr.slice 25 (.slice A xs.length c) (some (.int .i64 (l : Int))) (some (.int .i64 (h : Int))) none).run Tryd.prog W = .ok (.slice A' (h - l) (c - l)) W) ∧ ∀ w, kb.C w A xs.length xs → kb.C w A' (h - l) ((xs.drop l).take (h - l)) := by
  refine ⟨if c = l then A else A.map (·.add l), fun W => ?_, fun w hC => ?_⟩
  · have ht : Tryd.prog.underlying 25 = some (.slice (Tryd.prog.elem 25)) := by rw [elem25]; exact Tryd.underlying25
    rw [run_slice_lh W 25 A xs.length c ht .i64 .i64 _ _ (by omega) (by omega) (by omega), elem25, size5]
    simp [Result.andThen, sliced]
  · have h1 := Kd.C_drop (k := kb) hC (m := l) (by omega) hc
    have h2 := Kd.C_take (k := kb) h1 (m := h - l) (by rw [List.length_drop]; omega)
    have e : ((xs.drop l).take (h - l)).length = h - l := by rw [List.length_take, List.length_drop]; omega
    rw [e] at h2
    simpa [show kb.sz = 1 from rfl] using h2
theorem cut_l (A : Option Addr) (c : Nat) (xs : List Int) (l : Nat) (hh : l ≤ xs.length) (hc : xs.length ≤ c) :
    ∃ A' : Option Addr, (∀ W, (Instr.slice 25 (.slice A xs.length c) (some (.int .i64 (l : Int))) none none).run Tryd.prog W = .ok (.slice A' (xs.length - l) (c - l)) W) ∧ ∀ w, kb.C w A xs.length xs → kb.C w A' (xs.length - l) (xs.drop l) := by
  refine ⟨if c = l then A else A.map (·.add l), fun W => ?_, fun w hC => ?_⟩
  · have ht : Tryd.prog.underlying 25 = some (.slice (Tryd.prog.elem 25)) := by rw [elem25]; exact Tryd.underlying25
    rw [run_slice_l W 25 A xs.length c ht .i64 _ (by omega) (by omega), elem25, size5]
    simp [Result.andThen, sliced]
  · have h1 := Kd.C_drop (k := kb) hC (m := l) (by omega) hc
    rw [List.length_drop] at h1
    simpa [show kb.sz = 1 from rfl] using h1
theorem holds_of {w : World} {A : Option Addr} {n c : Nat} {xs : List Int} (h : kb.C w A n xs) (hl : xs.length = n) (hx : ∀ x ∈ xs, 0 ≤ x ∧ x < 256) : Lib.HoldsBytes w (.slice A n c) (Lib.bytesOf xs) := by
  refine ⟨A, c, by rw [Lib.bytesOf_length, hl], fun e => ?_, fun a e i x hi => ?_⟩
  · subst e
    have h0 := kb_nil h
    obtain rfl : xs = [] := List.length_eq_zero_iff.1 (by omega)
    rfl
  · subst e
    have hil : i < xs.length := by
      have := (List.getElem?_eq_some_iff.1 hi).1
      rwa [Lib.bytesOf_length] at this
    have hc := kb_cells h i (by omega)
    have hm := hx _ (List.getElem_mem hil)
    have hx' : x = UInt8.ofNat xs[i].toNat := by
      unfold Lib.bytesOf at hi
      rw [List.getElem?_map, List.getElem?_eq_getElem hil] at hi
      exact (Option.some.inj hi).symm
    rw [hc, List.getD_eq_getElem?_getD, List.getElem?_eq_getElem hil, hx', UInt8.toNat_ofNat']
    simp only [Option.getD_some]
    congr 2
    omega
end Go.Proofs.YthoemenchimggaaDoor
