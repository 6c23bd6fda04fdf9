/- Package bytes: Clone; Count and Index of one byte. -/
import Derived.Test.YthoemenchimggaaDoorK2
import Derived.Lib.BytesEntry
import Derived.Laws.Externs
import Derived.Shelf.Bytes.SlCountOne
import Derived.Shelf.Bytes.SlIndexAt
import Derived.Lib.SlBuf
namespace Go.Proofs.YthoemenchimggaaDoor
open Go.RowKit Go.Proofs.YthoemenchimggaaDoorW.PrintWords Go.Proofs.YthoemenchimggaaDoorW.PrintLast Go.Proofs.YthoemenchimggaaDoorW.PrintMore A Fl
set_option linter.unusedVariables false
set_option linter.unusedSimpArgs false
theorem kb_nil {W : World} {n : Nat} {xs : List Int} (h : kb.C W none n xs) : n = 0 := by
  by_cases h0 : 0 < n
  · obtain ⟨ad, e, _⟩ := u8_at h 0 h0
    exact absurd e (by simp)
  · omega
theorem kb_cells {W : World} {a : Addr} {n : Nat} {xs : List Int} (h : kb.C W (some a) n xs) : ∀ i, i < n → W.cell? (a.add i) = some (.int .u8 (xs.getD i 0)) := by
  intro i hi
  obtain ⟨ad, e, hc⟩ := u8_at h i hi
  injection e with e
  subst e
  exact hc
theorem count_run (A : Option Addr) (n c : Nat) (xs : List Int) (cv : Int) (w : World) (hl : xs.length = n) (h : kb.C w A n xs) :
    (callFunc 53 #[.slice A n c, .int .u8 cv]).run Tryd.prog w = .ok (.value (.int .i64 (Lib.countByte (Lib.bytesOf xs) cv.toNat.toUInt8))) w := by
  rw [run_callFunc_extern Tryd.func53 (by kernel_rfl) (by kernel_rfl) (by kernel_rfl) (e := Extern.BytealgCount.count) (by kernel_rfl)]
  cases A with
  | none =>
    have h0 := kb_nil h
    obtain rfl : xs = [] := List.length_eq_zero_iff.1 (by omega)
    rw [Lib.run_countNil]
    rfl
  | some a =>
    rw [Lib.run_countAt w a n c xs hl (kb_cells h) cv]
    rfl
theorem index_run (A : Option Addr) (n c : Nat) (xs : List Int) (cv : Int) (w : World) (hl : xs.length = n) (h : kb.C w A n xs) :
    (callFunc 62 #[.slice A n c, .int .u8 cv]).run Tryd.prog w = .ok (.value (.int .i64 (Lib.indexByte (Lib.bytesOf xs) cv.toNat.toUInt8))) w := by
  rw [run_callFunc_extern Tryd.func62 (by kernel_rfl) (by kernel_rfl) (by kernel_rfl) (e := Extern.BytealgIndexByte.indexByte) (by kernel_rfl)]
  cases A with
  | none =>
    have h0 := kb_nil h
    obtain rfl : xs = [] := List.length_eq_zero_iff.1 (by omega)
    subst h0
    rfl
  | some a =>
    rw [Lib.run_indexByteAt w a n c xs hl (kb_cells h) cv]
    rfl
theorem indexbyte_calls (A : Option Addr) (n c : Nat) (xs : List Int) (cv : Int) (w : World) (hl : xs.length = n) (h : kb.C w A n xs) :
    Calls Tryd.prog 54 #[.slice A n c, .int .u8 cv] w fun e w' => e = .returned (.int .i64 (Lib.indexByte (Lib.bytesOf xs) cv.toNat.toUInt8)) ∧ w = w' := by
  have hr := index_run A n c xs cv w hl h
  go_enter Tryd.func54, Tryd.ntmps54
  go_wp2
  go_ret
  exact ⟨rfl, rfl⟩
theorem count_calls (A A1 : Option Addr) (n c c1 : Nat) (xs : List Int) (cv : Int) (w : World) (hl : xs.length = n) (h : kb.C w A n xs) (h1 : kb.C w A1 1 [cv]) :
    Calls Tryd.prog 46 #[.slice A n c, .slice A1 1 c1] w fun e w' => e = .returned (.int .i64 (Lib.countByte (Lib.bytesOf xs) cv.toNat.toUInt8)) ∧ w = w' := by
  have hr := count_run A n c xs cv w hl h
  obtain ⟨ad, rfl, hc⟩ := byte_0 h1
  go_enter Tryd.func46, Tryd.ntmps46
  go_wp2
  go_ret
  exact ⟨rfl, rfl⟩
set_option maxRecDepth 100000 in
set_option maxHeartbeats 1000000 in
theorem index_calls (A A1 : Option Addr) (n c c1 : Nat) (xs : List Int) (cv : Int) (w : World) (hl : xs.length = n) (h : kb.C w A n xs) (h1 : kb.C w A1 1 [cv]) :
    Calls Tryd.prog 47 #[.slice A n c, .slice A1 1 c1] w fun e w' => e = .returned (.int .i64 (Lib.indexByte (Lib.bytesOf xs) cv.toNat.toUInt8)) ∧ w = w' := by
  have hi := Aside0.mk (indexbyte_calls A n c xs cv w hl h)
  obtain ⟨ad, rfl, hc⟩ := byte_0 h1
  go_enter Tryd.func47, Tryd.ntmps47
  go_wp2_with (go_at_call 54; refine hi.out.mono ?_; rintro e w' ⟨rfl, rfl⟩)
  go_ret
  exact ⟨rfl, rfl⟩
theorem tryd_nil (W : World) (a : Option Addr) (n c n' c' : Nat) : (binOp .eql 25 (.slice a n c) (.slice none n' c')).run Tryd.prog W = .ok (.bool a.isNone) W := Lib.run_eql_slice_nil W _ _ a n c n' c' Tryd.underlying25
theorem clone_calls (A : Option Addr) (n c : Nat) (xs : List Int) (w : World) (hl : xs.length = n) (hn : n ≤ 140737488355328) (h : kb.C w A n xs) :
    Calls Tryd.prog 35 #[.slice A n c] w fun e w' => ∃ v, e = .returned v ∧ kb.R 5 w' w.heap.size (fun _ => True) v xs ∧ Below w.heap.size w w' := by
  have q := tryd_nil
  have H := Aside0.mk h
  have HL := Aside0.mk hl
  clear hl
  cases A with
  | none =>
    have h0 := kb_nil h
    obtain rfl : xs = [] := List.length_eq_zero_iff.1 (by have := HL.out; omega)
    clear h
    go_enter Tryd.func35, Tryd.ntmps35
    go_wp2
    go_ret
    exact ⟨_, rfl, Kd.R_nil _ _ _ _ _, Below.refl _ _⟩
  | some a =>
    clear h
    go_enter Tryd.func35, Tryd.ntmps35
    go_wp2_with (first | ((with_reducible refine gate_dst (N := 5) rfl ?_); refine Kd.R_lit kb _ 5 ?hg (N := 5) ?hd (xs := ([] : List Int)) (inner := []) (ok := fun _ => True) (okp := fun _ => True) ?hr ?hp (fun _ hk => hk) trivial (Below.refl _ _) (Nat.le_refl _) (by simp) ?_; (case hd => rfl); (case hg => rfl); (case hr => first | (go_simp; done) | (go_simp; rfl)); (case hp => exact (Reps.none _ _)); intro v5 w1 ho4 hb hg_ hnew_; clear hg_ hnew_; have HO := Aside0.mk ho4; have HB := Aside0.mk hb; clear hb ho4) | ((with_reducible refine gate_builtin (b := .append) (xs := #[.tmp 5, .tmp 6]) rfl ?_); at_builtin; refine Kd.R_append_row (P := Tryd.prog) (Value.int .u8) (0 : Int) (h1 := fun _ => rfl) (w0 := w) w.heap.size rfl (.tmp 5) (.tmp 6) 25 5 (.int .u8 0) 1 rfl Tryd.underlying25 info5' rfl (by decide) v5 [] xs (some a) n c (fun _ => True) rfl rfl (fun _ _ => trivial) ?aO ?aR ?aB ?aS ?aL ?_; (case aO => exact HO.out); (case aR => exact Kd.C_below H.out HB.out); (case aB => exact HB.out); (case aS => exact HB.out.size); (case aL => rw [List.length_nil]; omega); intro v7 w2 ho hb hg hat; have HO7 := Aside0.mk ho; have HB7 := Aside0.mk hb; clear ho hb hg hat))
    go_ret
    exact ⟨_, rfl, HO7.out, HB7.out⟩
end Go.Proofs.YthoemenchimggaaDoor
