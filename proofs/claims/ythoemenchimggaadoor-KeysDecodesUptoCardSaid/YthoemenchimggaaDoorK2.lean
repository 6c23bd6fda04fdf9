/- Package keys' reader: a text. -/
import Derived.Test.YthoemenchimggaaDoorK1
namespace Go.Proofs.YthoemenchimggaaDoor
open Go.RowKit Go.Proofs.YthoemenchimggaaDoorW.PrintWords Go.Proofs.YthoemenchimggaaDoorW.PrintLast Go.Proofs.YthoemenchimggaaDoorW.PrintMore A Fl
set_option linter.unusedVariables false
set_option linter.unusedSimpArgs false
/-- What a text's reading gives: the bytes and what is left, or an error. -/
inductive TextR where
  | ok (out rest : List Int)
  | err (c : Int)
def textP : List Int → List Int → TextR
  | [], _ => .err 3
  | [c], out => if c = 0 then .err 3 else if out.length = 200 then .err 1 else .err 3
  | c :: d :: xs, out => if c = 0 then (if d = 1 then .ok out xs else if d = 255 then (if out.length = 200 then .err 1 else textP xs (out ++ [0])) else .err 2) else if out.length = 200 then .err 1 else textP (d :: xs) (out ++ [c])
theorem textP_one (c : Int) (xs out : List Int) (h : c ≠ 0) : textP (c :: xs) out = if out.length = 200 then .err 1 else textP xs (out ++ [c]) := by
  cases xs with
  | nil => simp [textP, h]
  | cons d xs => simp [textP, h]
def TextPost (w0 w : World) (g : Nat) (en : Ending) (w' : World) : TextR → Prop
  | .ok out rest => en = .returned (.string (strOfNums out)) ∧ Rdr w0 w' g rest ∧ Below w0.heap.size w0 w' ∧ KeepBut w w' g none
  | .err c => en = .panicked (trb c) ∧ Below w0.heap.size w0 w' ∧ KeepBut w w' g none
theorem byte_0 {W : World} {A : Option Addr} {y : Int} (h : kb.C W A 1 [y]) : ∃ ad : Addr, A = some ad ∧ W.cell? ad = some (.int .u8 y) := by
  obtain ⟨ad, e, hc⟩ := u8_at h 0 (by omega)
  exact ⟨ad, e, by simpa [Addr.add] using hc⟩
theorem info5' : (Tryd.prog.info? 5).map (fun i => (i.zero, i.size, i.bytes)) = some (some (.int .u8 0), 1, 1) := by kernel_rfl
theorem own_str {W : World} {A : Option Addr} {n c b : Nat} {ok : Nat → Prop} {ys : List Int} (h : kb.R 5 W b ok (.slice A n c) ys) : n = ys.length ∧ (Sem.run Tryd.prog (convert 25 9 (.slice A n c)) W) = .ok (.string (strOfNums ys)) W := by
  obtain ⟨A', c', e, hl, hC⟩ := Kd.R_reads h
  injection e with e1 e2 e3
  subst e1 e2 e3
  exact ⟨rfl, Kd.C_string (P := Tryd.prog) (A := A) (c := c) Tryd.underlying25 Tryd.underlying5 Tryd.underlying9 hC⟩
theorem Rdr.low {w0 A B : World} {g n : Nat} {X : List Int} (h : Rdr w0 A g X) (hb : Below n A B) (hg : g < n) : Rdr w0 B g X := by
  obtain ⟨A0, c0, h1, h2, h3, h4⟩ := h
  exact ⟨A0, c0, h1, (hb.block g hg).trans h2, h3, h4⟩
theorem keep_low {w2 A B : World} {g : Nat} (h : KeepBut w2 A g none) (hb : Below w2.heap.size A B) : KeepBut w2 B g none :=
  ⟨Nat.le_trans h.1 hb.size, fun i hi hg hr => (hb.block i hi).trans (h.2 i hi hg hr)⟩
set_option maxHeartbeats 4000000 in
set_option maxRecDepth 100000 in
theorem text_calls (g : Nat) (xs : List Int) (w0 w : World) (hI : Rdr w0 w g xs) (hB : Below w0.heap.size w0 w) :
    Calls Tryd.prog 42 #[.pointer (some ⟨g, 0, none⟩)] w fun en w' => TextPost w0 w g en w' (textP xs []) := by
  obtain ⟨R, hR⟩ : ∃ R, textP xs [] = R := ⟨_, rfl⟩
  rw [hR]
  have HR := Aside0.mk hR
  have HI := Aside0.mk hI
  have HB := Aside0.mk hB
  have HG := Aside0.mk hI.lt
  have HS := Aside0.mk hB.size
  clear hR hI hB
  go_enter Tryd.func42, Tryd.ntmps42
  go_wp2_with fail
  go_loopg [3] xs.length (fun gk v3 wr => ∃ (ys out : List Int), Aside0 (ys.length ≤ gk) ∧ Aside0 (textP ys out = R) ∧ Aside0 (out.length ≤ 200) ∧ Aside0 (kb.R 5 wr w.heap.size (fun k => k ≠ g) v3 out) ∧ Aside0 (Rdr w0 wr g ys) ∧ Aside0 (Below w0.heap.size w0 wr) ∧ Aside0 (KeepBut w wr g none))
  case atStart => exact ⟨xs, [], ⟨Nat.le_refl _⟩, HR, ⟨by simp⟩, ⟨Kd.R_nil _ _ _ _ _⟩, HI, HB, ⟨KeepBut.refl _ _ _⟩⟩
  case round =>
    obtain ⟨ys, out, HY, HT, HL, HO, HI', HB', HK'⟩ := hrel
    clear HR HI
    cases ys with
    | nil =>
      have hT := HT.out
      rw [textP] at hT
      subst hT
      go_wp2_with fail
      refine (take_no g [] 1 w0 _ HI'.out HB'.out (by simp)).mono ?_
      rintro en w1 ⟨rfl, rfl⟩
      exact ⟨rfl, rfl, HB'.out, HK'.out⟩
    | cons c ys =>
      by_cases hc0 : c = 0
      · subst hc0
        go_wp2_with fail
        refine (take_ok g (0 :: ys) 1 w0 _ HI'.out HB'.out (by simp)).mono ?_
        rintro en w1 ⟨A1, c1, rfl, hc1, hC1, hR1, hB1, hK1⟩
        obtain ⟨ad1, rfl, hcell1⟩ := byte_0 hC1
        have hcell1 := (hB1.cell (World.block_lt_of_cell? w0 _ hcell1)).trans hcell1
        rw [List.drop_one, List.tail_cons] at hR1
        have HI1 := Aside0.mk hR1
        have HB1 := Aside0.mk hB1
        have HK1 := Aside0.mk (HK'.out.trans hK1 (.inl rfl))
        have HO1 := Aside0.mk (Kd.R_keep HO.out hK1 (fun k h => h))
        clear hC1 hR1 hB1 hK1 hc1 HI' HB' HK' HO
        cases ys with
        | nil =>
          have hT := HT.out
          simp only [textP, if_true] at hT
          subst hT
          go_wp2_with fail
          refine (take_no g [] 1 w0 _ HI1.out HB1.out (by simp)).mono ?_
          rintro en w2 ⟨rfl, rfl⟩
          exact ⟨rfl, rfl, HB1.out, HK1.out⟩
        | cons d ys =>
          go_wp2_with fail
          refine (take_ok g (d :: ys) 1 w0 _ HI1.out HB1.out (by simp)).mono ?_
          rintro en w2 ⟨A2, c2, rfl, hc2, hC2, hR2, hB2, hK2⟩
          obtain ⟨ad2, rfl, hcell2⟩ := byte_0 hC2
          have hcell2 := (hB2.cell (World.block_lt_of_cell? w0 _ hcell2)).trans hcell2
          rw [List.drop_one, List.tail_cons] at hR2
          have HI2 := Aside0.mk hR2
          have HB2 := Aside0.mk hB2
          have HK2 := Aside0.mk (HK1.out.trans hK2 (.inl rfl))
          have HO2 := Aside0.mk (Kd.R_keep HO1.out hK2 (fun k h => h))
          clear hC2 hR2 hB2 hK2 hc2 HI1 HB1 HK1 HO1
          have hT := HT.out
          simp only [textP, if_true] at hT
          by_cases hd1 : d = 1
          · rw [if_pos hd1] at hT
            subst hT hd1
            obtain ⟨A3, c3, e3⟩ := Kd.R_slice HO2.out
            subst e3
            have hstr := (own_str HO2.out).2
            go_wp2
            refine bodyPost_ret (results_tmp rfl _ _ _) rfl ?_
            exact ⟨rfl, HI2.out, HB2.out, HK2.out⟩
          · rw [if_neg hd1] at hT
            have cd1 : (d == 1) = false := by simpa using hd1
            by_cases hd2 : d = 255
            · rw [if_pos hd2] at hT
              subst hd2
              obtain ⟨A3, c3, e3⟩ := Kd.R_slice HO2.out
              subst e3
              by_cases hl : out.length = 200
              · rw [if_pos hl] at hT
                subst hT
                have cl : ((out.length : Int) == 200) = true := by rw [hl]; rfl
                go_wp2
                exact ⟨rfl, rfl, HB2.out, HK2.out⟩
              · rw [if_neg hl] at hT
                have cl : ((out.length : Int) == 200) = false := by simp; omega
                have HT' := Aside0.mk hT
                have HNL := Aside0.mk hl
                have HSz := Aside0.mk HK2.out.1
                have HAL : Aside0 ((out.length + 1) * 1 ≤ 140737488355328) := ⟨by have := HL.out; omega⟩
                clear hT hl
                go_wp2_with (first | ((with_reducible refine gate_builtin (b := .append) (xs := #[.tmp 28, .tmp 30]) rfl ?_); at_builtin; refine Kd.R_append kb (w0 := w2) w.heap.size rfl (.tmp 28) (.tmp 30) 25 5 (.int .u8 0) 1 rfl Tryd.underlying25 info5' rfl (by decide) (by omega) (.slice A3 out.length c3) out 0 [.int .u8 0] (fun k => k ≠ g) (fun _ => False) rfl rfl ?aP (fun _ hk => hk.elim) ?aF ?aO ?aB ?aS ?aL ?_; (case aP => exact rfl); (case aB => exact Below.refl _ _); (case aF => exact (fun k hk => Nat.ne_of_gt (Nat.lt_of_lt_of_le HI2.out.lt hk))); (case aO => exact HO2.out); (case aS => exact HSz.out); (case aL => exact HAL.out); intro v79 w7 ho hb hg hat; have HO7 := Aside0.mk ho; have HB7 := Aside0.mk hb; clear ho hb hg hat))
                go_roundg (gk - 1)
                case measure => have := HY.out; simp only [List.length_cons] at this; omega
                case rel => exact ⟨ys, out ++ [0], ⟨by have := HY.out; simp only [List.length_cons] at this; omega⟩, HT', ⟨by rw [List.length_append, List.length_singleton]; have := HL.out; have := HNL.out; omega⟩, HO7, ⟨Rdr.low HI2.out HB7.out HG.out⟩, ⟨HB2.out.trans (HB7.out.mono HS.out)⟩, ⟨keep_low HK2.out HB7.out⟩⟩
            · rw [if_neg hd2] at hT
              have cd2 : (d == 255) = false := by simpa using hd2
              subst hT
              go_wp2
              exact ⟨rfl, rfl, HB2.out, HK2.out⟩
      · have hT := HT.out
        rw [textP_one _ _ _ hc0] at hT
        have cc0 : (c == 0) = false := by simpa using hc0
        go_wp2_with fail
        refine (take_ok g (c :: ys) 1 w0 _ HI'.out HB'.out (by simp)).mono ?_
        rintro en w1 ⟨A1, c1, rfl, hc1, hC1, hR1, hB1, hK1⟩
        obtain ⟨ad1, rfl, hcell1⟩ := byte_0 hC1
        have hcell1 := (hB1.cell (World.block_lt_of_cell? w0 _ hcell1)).trans hcell1
        rw [List.drop_one, List.tail_cons] at hR1
        have HI1 := Aside0.mk hR1
        have HB1 := Aside0.mk hB1
        have HK1 := Aside0.mk (HK'.out.trans hK1 (.inl rfl))
        have HO1 := Aside0.mk (Kd.R_keep HO.out hK1 (fun k h => h))
        clear hC1 hR1 hB1 hK1 hc1 HI' HB' HK' HO hc0
        obtain ⟨A3, c3, e3⟩ := Kd.R_slice HO1.out
        subst e3
        by_cases hl : out.length = 200
        · rw [if_pos hl] at hT
          subst hT
          have cl : ((out.length : Int) == 200) = true := by rw [hl]; rfl
          go_wp2
          exact ⟨rfl, rfl, HB1.out, HK1.out⟩
        · rw [if_neg hl] at hT
          have cl : ((out.length : Int) == 200) = false := by simp; omega
          have HT' := Aside0.mk hT
          have HNL := Aside0.mk hl
          have HSz := Aside0.mk HK1.out.1
          have HAL : Aside0 ((out.length + 1) * 1 ≤ 140737488355328) := ⟨by have := HL.out; omega⟩
          clear hT hl
          go_wp2_with (first | ((with_reducible refine gate_builtin (b := .append) (xs := #[.tmp 28, .tmp 30]) rfl ?_); at_builtin; refine Kd.R_append kb (w0 := w1) w.heap.size rfl (.tmp 28) (.tmp 30) 25 5 (.int .u8 0) 1 rfl Tryd.underlying25 info5' rfl (by decide) (by omega) (.slice A3 out.length c3) out c [.int .u8 c] (fun k => k ≠ g) (fun _ => False) rfl rfl ?aP (fun _ hk => hk.elim) ?aF ?aO ?aB ?aS ?aL ?_; (case aP => exact rfl); (case aB => exact Below.refl _ _); (case aF => exact (fun k hk => Nat.ne_of_gt (Nat.lt_of_lt_of_le HI1.out.lt hk))); (case aO => exact HO1.out); (case aS => exact HSz.out); (case aL => exact HAL.out); intro v79 w7 ho hb hg hat; have HO7 := Aside0.mk ho; have HB7 := Aside0.mk hb; clear ho hb hg hat))
          go_roundg (gk - 1)
          case measure => have := HY.out; simp only [List.length_cons] at this; omega
          case rel => exact ⟨ys, out ++ [c], ⟨by have := HY.out; simp only [List.length_cons] at this; omega⟩, HT', ⟨by rw [List.length_append, List.length_singleton]; have := HL.out; have := HNL.out; omega⟩, HO7, ⟨Rdr.low HI1.out HB7.out HG.out⟩, ⟨HB1.out.trans (HB7.out.mono HS.out)⟩, ⟨keep_low HK1.out HB7.out⟩⟩
end Go.Proofs.YthoemenchimggaaDoor
