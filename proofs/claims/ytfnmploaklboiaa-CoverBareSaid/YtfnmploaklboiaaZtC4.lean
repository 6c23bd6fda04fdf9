import Derived.Test.YtfnmploaklboiaaZtC3
/- cover: slices.IndexFunc and slices.ContainsFunc of instructions, at the closures that cover hands them. Printed by a program of this session. -/
namespace Go.Proofs.Ytfnmploaklboiaa
open Go.RowKit Go.Proofs.YtfnmploaklboiaaW.PrintWords A
set_option linter.unusedSimpArgs false
set_option linter.unusedVariables false
/-- An element's cells, in a world that has all that w0 had. -/
theorem elem_at {w0 W : World} {A : Option Addr} {l : List S33} (hR : Kd.C k33 w0 A l.length l) (hB : Below w0.heap.size w0 W) (i : Int) (h0 : 0 ≤ i) (h1 : i < l.length) : ∃ ad A7 A8 A11 A13 c7 c8 c11 c13, A = some ad ∧
    W.cell? (ad.add (i.toNat * 14)) = some (.int .i64 (rd_T33 l i).f0) ∧ W.cell? ⟨(ad.add (i.toNat * 14)).block, (ad.add (i.toNat * 14)).off + 1, none⟩ = some (.int .i64 (rd_T33 l i).f1) ∧ W.cell? ⟨(ad.add (i.toNat * 14)).block, (ad.add (i.toNat * 14)).off + 2, none⟩ = some (.int .i64 (rd_T33 l i).f2) ∧
    W.cell? ⟨(ad.add (i.toNat * 14)).block, (ad.add (i.toNat * 14)).off + 3, none⟩ = some (.int .i64 (rd_T33 l i).f3) ∧ W.cell? ⟨(ad.add (i.toNat * 14)).block, (ad.add (i.toNat * 14)).off + 4, none⟩ = some (.int .i64 (rd_T33 l i).f4) ∧ W.cell? ⟨(ad.add (i.toNat * 14)).block, (ad.add (i.toNat * 14)).off + 5, none⟩ = some (.string (rd_T33 l i).f5) ∧
    W.cell? ⟨(ad.add (i.toNat * 14)).block, (ad.add (i.toNat * 14)).off + 6, none⟩ = some (.int .i64 (rd_T33 l i).f6) ∧ W.cell? ⟨(ad.add (i.toNat * 14)).block, (ad.add (i.toNat * 14)).off + 7, none⟩ = some (.slice A7 (rd_T33 l i).f7.length c7) ∧ W.cell? ⟨(ad.add (i.toNat * 14)).block, (ad.add (i.toNat * 14)).off + 8, none⟩ = some (.slice A8 (rd_T33 l i).f8.length c8) ∧
    W.cell? ⟨(ad.add (i.toNat * 14)).block, (ad.add (i.toNat * 14)).off + 9, none⟩ = some (.bool (rd_T33 l i).f9) ∧ W.cell? ⟨(ad.add (i.toNat * 14)).block, (ad.add (i.toNat * 14)).off + 10, none⟩ = some (.bool (rd_T33 l i).f10) ∧ W.cell? ⟨(ad.add (i.toNat * 14)).block, (ad.add (i.toNat * 14)).off + 11, none⟩ = some (.slice A11 (rd_T33 l i).f11.length c11) ∧
    W.cell? ⟨(ad.add (i.toNat * 14)).block, (ad.add (i.toNat * 14)).off + 12, none⟩ = some (.int .i64 (rd_T33 l i).f12) ∧ W.cell? ⟨(ad.add (i.toNat * 14)).block, (ad.add (i.toNat * 14)).off + 13, none⟩ = some (.slice A13 (rd_T33 l i).f13.length c13) := by
  obtain ⟨ad, A7, c7, A8, c8, A11, c11, A13, c13, e, x0, x1, x2, x3, x4, x5, x6, x7, x8, x9, x10, x11, x12, x13, _⟩ := at_T33 hR i h0 h1
  have T : ∀ {a : Addr} {v : Value}, w0.cell? a = some v → W.cell? a = some v := fun h => (hB.cell (World.block_lt_of_cell? w0 _ h)).trans h
  exact ⟨ad, A7, A8, A11, A13, c7, c8, c11, c13, e, T x0, T x1, T x2, T x3, T x4, T x5, T x6, T x7, T x8, T x9, T x10, T x11, T x12, T x13⟩
theorem rd33_drop (l : List S33) (i : Int) (h0 : 0 ≤ i) (h1 : i < l.length) : l.drop i.toNat = rd_T33 l i :: l.drop (i.toNat + 1) := by
  have hh : i.toNat < l.length := by omega
  rw [List.drop_eq_getElem_cons hh]
  unfold rd_T33
  rw [List.getD_eq_getElem?_getD, List.getElem?_eq_getElem hh]; rfl
theorem mem_rd33 (l : List S33) (i : Int) (h0 : 0 ≤ i) (h1 : i < l.length) : rd_T33 l i ∈ l := by
  have : rd_T33 l i ∈ l.drop i.toNat := by rw [rd33_drop l i h0 h1]; exact List.mem_cons_self ..
  exact List.mem_of_mem_drop this
theorem indexFunc_36 (p4 p5 : Addr) (p : S33 → Bool) (A : Option Addr) (c : Nat) (l : List S33) (w0 w : World) (hl : l.length ≤ 100000000000000) (hC : Kd.C k33 w0 A l.length l) (hB : Below w0.heap.size w0 w)
    (hP : ∀ x, x ∈ l → ∀ vs, IVals x vs → ∀ W, Below w.heap.size w W → Calls Try.prog 36 #[.agg vs, .pointer (some p4), .pointer (some p5)] W fun e W' => e = .returned (.bool (p x)) ∧ Below W.heap.size W W') :
    Calls Try.prog 24 #[.slice A l.length c, (.func (.func 36) #[] #[.pointer (some p4), .pointer (some p5)])] w fun e w' => e = .returned (.int .i64 (idxA p l 0)) ∧ Below w.heap.size w w' := by
  have HC := Aside0.mk hC
  have HL := Aside0.mk hl
  have HB := Aside0.mk hB
  have HP := Aside0.mk hP
  obtain ⟨R, hR⟩ : ∃ R, idxA p l 0 = R := ⟨_, rfl⟩
  rw [hR]
  have HR := Aside0.mk hR
  clear hC hl hR hB hP
  go_enter Try.func24, Try.ntmps24
  go_wp2
  go_loopg [8] l.length (fun kq v8 w' => ∃ i : Int, v8 = .int .i64 i ∧ Aside0 (0 ≤ i ∧ i ≤ l.length ∧ (kq : Int) = l.length - i) ∧ Aside0 (idxA p (l.drop i.toNat) i.toNat = R) ∧ Aside0 (Below w.heap.size w w'))
  case atStart => exact ⟨0, rfl, ⟨by omega, by omega, by omega⟩, ⟨by simpa using HR.out⟩, ⟨Below.refl _ _⟩⟩
  case round =>
    clear HR
    obtain ⟨i, rfl, HI, HA, HW⟩ := hrel
    obtain ⟨h0, h1, h2⟩ := HI.out
    by_cases hlt : i < l.length
    · obtain ⟨ad, A7, A8, A11, A13, c7, c8, c11, c13, e, x0, x1, x2, x3, x4, x5, x6, x7, x8, x9, x10, x11, x12, x13⟩ := elem_at HC.out (below_step HB.out HW.out) i h0 hlt
      cases e
      have q0 := eq_true h0
      have q1 := eq_true hlt
      have b1 : decide (i < (l.length : Int)) = true := decide_eq_true hlt
      have ha := HA.out
      rw [rd33_drop l i h0 hlt, idxA] at ha
      obtain ⟨y, hy⟩ : ∃ y, rd_T33 l i = y := ⟨_, rfl⟩
      have hmem := mem_rd33 l i h0 hlt
      rw [hy] at hmem ha x0 x1 x2 x3 x4 x5 x6 x7 x8 x9 x10 x11 x12 x13
      have HA2 := Aside0.mk ha
      have HD := Aside0.mk hlt
      have hcall := HP.out y hmem _ ⟨A7, A8, A11, A13, c7, c8, c11, c13, rfl⟩ wr HW.out
      have HCL := Aside0.mk hcall
      clear ha HA h1 h2 hy hcall hmem
      cases hc : p y
      · clear hlt h0
        go_wp2_with (first | (go_at_call 36; (with_reducible refine (HCL.out).mono ?_); rintro e w2 ⟨rfl, hb2⟩; rw [hc]; have HB2 := Aside0.mk hb2; clear hb2))
        go_roundg (l.length - i.toNat - 1)
        case measure => obtain ⟨h0, h1, h2⟩ := HI.out; have := HD.out; omega
        case rel =>
          obtain ⟨h0, h1, h2⟩ := HI.out
          have hl := HL.out
          have hd := HD.out
          refine ⟨i + 1, ?_, ⟨by omega, by omega, by omega⟩, ⟨?_⟩, ⟨below_step HW.out HB2.out⟩⟩
          · rw [w64i i h0 (by omega)]
          · have := HA2.out
            rw [hc, if_neg (by decide)] at this
            rw [show (i + 1).toNat = i.toNat + 1 by omega]
            exact this
      · clear hlt h0
        go_wp2_with (first | (go_at_call 36; (with_reducible refine (HCL.out).mono ?_); rintro e w2 ⟨rfl, hb2⟩; rw [hc]; have HB2 := Aside0.mk hb2; clear hb2))
        go_ret
        have := HA2.out
        rw [hc, if_pos rfl] at this
        obtain ⟨h0, h1, h2⟩ := HI.out
        exact ⟨ret_int (by omega), below_step HW.out HB2.out⟩
    · have b1 : decide (i < (l.length : Int)) = false := decide_eq_false hlt
      have ha := HA.out
      rw [List.drop_of_length_le (by omega), idxA] at ha
      have HA2 := Aside0.mk ha
      clear ha HA h1 h2 hlt h0
      go_wp2
      go_ret
      exact ⟨ret_int HA2.out, HW.out⟩
theorem containsFunc_36 (p4 p5 : Addr) (p : S33 → Bool) (A : Option Addr) (c : Nat) (l : List S33) (w0 w : World) (hl : l.length ≤ 100000000000000) (hC : Kd.C k33 w0 A l.length l) (hB : Below w0.heap.size w0 w)
    (hP : ∀ x, x ∈ l → ∀ vs, IVals x vs → ∀ W, Below w.heap.size w W → Calls Try.prog 36 #[.agg vs, .pointer (some p4), .pointer (some p5)] W fun e W' => e = .returned (.bool (p x)) ∧ Below W.heap.size W W') :
    Calls Try.prog 26 #[.slice A l.length c, (.func (.func 36) #[] #[.pointer (some p4), .pointer (some p5)])] w fun e w' => e = .returned (.bool (l.any p)) ∧ Below w.heap.size w w' := by
  have HC := Aside0.mk (indexFunc_36 p4 p5 p A c l w0 w hl hC hB hP)
  clear hC hl hB hP
  go_enter Try.func26, Try.ntmps26
  go_wp2_with (first | (go_at_call 24; (with_reducible refine (HC.out).mono ?_); rintro e w' ⟨rfl, hb⟩; have HB2 := Aside0.mk hb; clear hb))
  go_ret
  exact ⟨ret_bool (idxA_any p l 0), HB2.out⟩
theorem indexFunc_25 (p : S33 → Bool) (A : Option Addr) (c : Nat) (l : List S33) (w0 w : World) (hl : l.length ≤ 100000000000000) (hC : Kd.C k33 w0 A l.length l) (hB : Below w0.heap.size w0 w)
    (hP : ∀ x, x ∈ l → ∀ vs, IVals x vs → ∀ W, Below w.heap.size w W → Calls Try.prog 25 #[.agg vs] W fun e W' => e = .returned (.bool (p x)) ∧ Below W.heap.size W W') :
    Calls Try.prog 24 #[.slice A l.length c, (.func (.func 25) #[] #[])] w fun e w' => e = .returned (.int .i64 (idxA p l 0)) ∧ Below w.heap.size w w' := by
  have HC := Aside0.mk hC
  have HL := Aside0.mk hl
  have HB := Aside0.mk hB
  have HP := Aside0.mk hP
  obtain ⟨R, hR⟩ : ∃ R, idxA p l 0 = R := ⟨_, rfl⟩
  rw [hR]
  have HR := Aside0.mk hR
  clear hC hl hR hB hP
  go_enter Try.func24, Try.ntmps24
  go_wp2
  go_loopg [8] l.length (fun kq v8 w' => ∃ i : Int, v8 = .int .i64 i ∧ Aside0 (0 ≤ i ∧ i ≤ l.length ∧ (kq : Int) = l.length - i) ∧ Aside0 (idxA p (l.drop i.toNat) i.toNat = R) ∧ Aside0 (Below w.heap.size w w'))
  case atStart => exact ⟨0, rfl, ⟨by omega, by omega, by omega⟩, ⟨by simpa using HR.out⟩, ⟨Below.refl _ _⟩⟩
  case round =>
    clear HR
    obtain ⟨i, rfl, HI, HA, HW⟩ := hrel
    obtain ⟨h0, h1, h2⟩ := HI.out
    by_cases hlt : i < l.length
    · obtain ⟨ad, A7, A8, A11, A13, c7, c8, c11, c13, e, x0, x1, x2, x3, x4, x5, x6, x7, x8, x9, x10, x11, x12, x13⟩ := elem_at HC.out (below_step HB.out HW.out) i h0 hlt
      cases e
      have q0 := eq_true h0
      have q1 := eq_true hlt
      have b1 : decide (i < (l.length : Int)) = true := decide_eq_true hlt
      have ha := HA.out
      rw [rd33_drop l i h0 hlt, idxA] at ha
      obtain ⟨y, hy⟩ : ∃ y, rd_T33 l i = y := ⟨_, rfl⟩
      have hmem := mem_rd33 l i h0 hlt
      rw [hy] at hmem ha x0 x1 x2 x3 x4 x5 x6 x7 x8 x9 x10 x11 x12 x13
      have HA2 := Aside0.mk ha
      have HD := Aside0.mk hlt
      have hcall := HP.out y hmem _ ⟨A7, A8, A11, A13, c7, c8, c11, c13, rfl⟩ wr HW.out
      have HCL := Aside0.mk hcall
      clear ha HA h1 h2 hy hcall hmem
      cases hc : p y
      · clear hlt h0
        go_wp2_with (first | (go_at_call 25; (with_reducible refine (HCL.out).mono ?_); rintro e w2 ⟨rfl, hb2⟩; rw [hc]; have HB2 := Aside0.mk hb2; clear hb2))
        go_roundg (l.length - i.toNat - 1)
        case measure => obtain ⟨h0, h1, h2⟩ := HI.out; have := HD.out; omega
        case rel =>
          obtain ⟨h0, h1, h2⟩ := HI.out
          have hl := HL.out
          have hd := HD.out
          refine ⟨i + 1, ?_, ⟨by omega, by omega, by omega⟩, ⟨?_⟩, ⟨below_step HW.out HB2.out⟩⟩
          · rw [w64i i h0 (by omega)]
          · have := HA2.out
            rw [hc, if_neg (by decide)] at this
            rw [show (i + 1).toNat = i.toNat + 1 by omega]
            exact this
      · clear hlt h0
        go_wp2_with (first | (go_at_call 25; (with_reducible refine (HCL.out).mono ?_); rintro e w2 ⟨rfl, hb2⟩; rw [hc]; have HB2 := Aside0.mk hb2; clear hb2))
        go_ret
        have := HA2.out
        rw [hc, if_pos rfl] at this
        obtain ⟨h0, h1, h2⟩ := HI.out
        exact ⟨ret_int (by omega), below_step HW.out HB2.out⟩
    · have b1 : decide (i < (l.length : Int)) = false := decide_eq_false hlt
      have ha := HA.out
      rw [List.drop_of_length_le (by omega), idxA] at ha
      have HA2 := Aside0.mk ha
      clear ha HA h1 h2 hlt h0
      go_wp2
      go_ret
      exact ⟨ret_int HA2.out, HW.out⟩
theorem indexFunc_27 (p : S33 → Bool) (A : Option Addr) (c : Nat) (l : List S33) (w0 w : World) (hl : l.length ≤ 100000000000000) (hC : Kd.C k33 w0 A l.length l) (hB : Below w0.heap.size w0 w)
    (hP : ∀ x, x ∈ l → ∀ vs, IVals x vs → ∀ W, Below w.heap.size w W → Calls Try.prog 27 #[.agg vs] W fun e W' => e = .returned (.bool (p x)) ∧ Below W.heap.size W W') :
    Calls Try.prog 24 #[.slice A l.length c, (.func (.func 27) #[] #[])] w fun e w' => e = .returned (.int .i64 (idxA p l 0)) ∧ Below w.heap.size w w' := by
  have HC := Aside0.mk hC
  have HL := Aside0.mk hl
  have HB := Aside0.mk hB
  have HP := Aside0.mk hP
  obtain ⟨R, hR⟩ : ∃ R, idxA p l 0 = R := ⟨_, rfl⟩
  rw [hR]
  have HR := Aside0.mk hR
  clear hC hl hR hB hP
  go_enter Try.func24, Try.ntmps24
  go_wp2
  go_loopg [8] l.length (fun kq v8 w' => ∃ i : Int, v8 = .int .i64 i ∧ Aside0 (0 ≤ i ∧ i ≤ l.length ∧ (kq : Int) = l.length - i) ∧ Aside0 (idxA p (l.drop i.toNat) i.toNat = R) ∧ Aside0 (Below w.heap.size w w'))
  case atStart => exact ⟨0, rfl, ⟨by omega, by omega, by omega⟩, ⟨by simpa using HR.out⟩, ⟨Below.refl _ _⟩⟩
  case round =>
    clear HR
    obtain ⟨i, rfl, HI, HA, HW⟩ := hrel
    obtain ⟨h0, h1, h2⟩ := HI.out
    by_cases hlt : i < l.length
    · obtain ⟨ad, A7, A8, A11, A13, c7, c8, c11, c13, e, x0, x1, x2, x3, x4, x5, x6, x7, x8, x9, x10, x11, x12, x13⟩ := elem_at HC.out (below_step HB.out HW.out) i h0 hlt
      cases e
      have q0 := eq_true h0
      have q1 := eq_true hlt
      have b1 : decide (i < (l.length : Int)) = true := decide_eq_true hlt
      have ha := HA.out
      rw [rd33_drop l i h0 hlt, idxA] at ha
      obtain ⟨y, hy⟩ : ∃ y, rd_T33 l i = y := ⟨_, rfl⟩
      have hmem := mem_rd33 l i h0 hlt
      rw [hy] at hmem ha x0 x1 x2 x3 x4 x5 x6 x7 x8 x9 x10 x11 x12 x13
      have HA2 := Aside0.mk ha
      have HD := Aside0.mk hlt
      have hcall := HP.out y hmem _ ⟨A7, A8, A11, A13, c7, c8, c11, c13, rfl⟩ wr HW.out
      have HCL := Aside0.mk hcall
      clear ha HA h1 h2 hy hcall hmem
      cases hc : p y
      · clear hlt h0
        go_wp2_with (first | (go_at_call 27; (with_reducible refine (HCL.out).mono ?_); rintro e w2 ⟨rfl, hb2⟩; rw [hc]; have HB2 := Aside0.mk hb2; clear hb2))
        go_roundg (l.length - i.toNat - 1)
        case measure => obtain ⟨h0, h1, h2⟩ := HI.out; have := HD.out; omega
        case rel =>
          obtain ⟨h0, h1, h2⟩ := HI.out
          have hl := HL.out
          have hd := HD.out
          refine ⟨i + 1, ?_, ⟨by omega, by omega, by omega⟩, ⟨?_⟩, ⟨below_step HW.out HB2.out⟩⟩
          · rw [w64i i h0 (by omega)]
          · have := HA2.out
            rw [hc, if_neg (by decide)] at this
            rw [show (i + 1).toNat = i.toNat + 1 by omega]
            exact this
      · clear hlt h0
        go_wp2_with (first | (go_at_call 27; (with_reducible refine (HCL.out).mono ?_); rintro e w2 ⟨rfl, hb2⟩; rw [hc]; have HB2 := Aside0.mk hb2; clear hb2))
        go_ret
        have := HA2.out
        rw [hc, if_pos rfl] at this
        obtain ⟨h0, h1, h2⟩ := HI.out
        exact ⟨ret_int (by omega), below_step HW.out HB2.out⟩
    · have b1 : decide (i < (l.length : Int)) = false := decide_eq_false hlt
      have ha := HA.out
      rw [List.drop_of_length_le (by omega), idxA] at ha
      have HA2 := Aside0.mk ha
      clear ha HA h1 h2 hlt h0
      go_wp2
      go_ret
      exact ⟨ret_int HA2.out, HW.out⟩
theorem containsFunc_27 (p : S33 → Bool) (A : Option Addr) (c : Nat) (l : List S33) (w0 w : World) (hl : l.length ≤ 100000000000000) (hC : Kd.C k33 w0 A l.length l) (hB : Below w0.heap.size w0 w)
    (hP : ∀ x, x ∈ l → ∀ vs, IVals x vs → ∀ W, Below w.heap.size w W → Calls Try.prog 27 #[.agg vs] W fun e W' => e = .returned (.bool (p x)) ∧ Below W.heap.size W W') :
    Calls Try.prog 26 #[.slice A l.length c, (.func (.func 27) #[] #[])] w fun e w' => e = .returned (.bool (l.any p)) ∧ Below w.heap.size w w' := by
  have HC := Aside0.mk (indexFunc_27 p A c l w0 w hl hC hB hP)
  clear hC hl hB hP
  go_enter Try.func26, Try.ntmps26
  go_wp2_with (first | (go_at_call 24; (with_reducible refine (HC.out).mono ?_); rintro e w' ⟨rfl, hb⟩; have HB2 := Aside0.mk hb; clear hb))
  go_ret
  exact ⟨ret_bool (idxA_any p l 0), HB2.out⟩
end Go.Proofs.Ytfnmploaklboiaa
