import Derived.Test.YtfnmploaklboiaaZtC5
import Derived.Deep.DeepCutAuto
import Derived.Deep.CutBlock
/- cover: shape. -/
namespace Go.Proofs.Ytfnmploaklboiaa
open Go.RowKit Go.Proofs.YtfnmploaklboiaaW.PrintWords A
set_option linter.unusedSimpArgs false
set_option linter.unusedVariables false
def curB (x : S33) : Bool := decide (x.f1 ≥ 0) && decide (x.f1 < 4)
def plaB (n : Int) (x : S33) : Bool := decide (x.f2 ≥ 0) && decide (x.f2 < n)
def modB (x : S33) : Bool := isKnown x.f3 && isKnown x.f4
/-- Is an instruction a right one, in a plan of n? -/
def rightB (n : Int) (x : S33) : Bool :=
  if x.f0 = 1 then modB x && x.f3 != 0 else if x.f0 = 2 then modB x && curB x && decide (x.f6 ≥ -1) else if x.f0 = 3 then modB x && curB x && plaB n x
  else if x.f0 = 4 then modB x && curB x && plaB n x && ((x.f11.length : Int) == 1) else if x.f0 = 8 then modB x && plaB n x else modB x && decide (x.f0 ≥ 1) && decide (x.f0 ≤ 12)
def rightG (m c p : Bool) (x : S33) : Bool :=
  if x.f0 = 1 then m && x.f3 != 0 else if x.f0 = 2 then m && c && decide (x.f6 ≥ -1) else if x.f0 = 3 then m && c && p
  else if x.f0 = 4 then m && c && p && ((x.f11.length : Int) == 1) else if x.f0 = 8 then m && p else m && decide (x.f0 ≥ 1) && decide (x.f0 ≤ 12)
def shapeB (l : List S33) : Bool := !(decide ((l.length : Int) < 1) || decide ((l.length : Int) > 4096) || (rd_T33 l ((l.length : Int) - 1)).f0 != 12) && l.all (rightB l.length)
set_option maxHeartbeats 4000000 in
set_option maxRecDepth 100000 in
theorem shape_loop (w0 W : World) (g mb ob : Nat) (t : ByteArray) (A : Option Addr) (l : List S33) (c : Nat) (hV : Vw w0 W g mb ob t A l c) (hl1 : 1 ≤ l.length) (hl2 : l.length ≤ 4096) (hh : (rd_T33 l ((l.length : Int) - 1)).f0 = 12) :
    Calls Try.prog 11 #[.pointer (some ⟨g, 0, none⟩)] W fun e w' => e = .returned (.bool (l.all (rightB l.length))) ∧ Below W.heap.size W w' := by
  have v0 := hV.c0
  have v1 := hV.c1
  have HV := Aside0.mk hV
  have b1 : decide ((l.length : Int) < 1) = false := decide_eq_false (by omega)
  have b2 : decide ((l.length : Int) > 4096) = false := decide_eq_false (by omega)
  obtain ⟨j, hj⟩ : ∃ j : Int, (l.length : Int) - 1 = j := ⟨_, rfl⟩
  have ws : wrap64 ((l.length : Int) - 1) = j := by simp only [wrap64]; omega
  have q0 : (0 ≤ j) = True := eq_true (by omega)
  have q1 : (j < (l.length : Int)) = True := eq_true (by omega)
  rw [hj] at hh
  obtain ⟨ad, A7, A8, A11, A13, c7, c8, c11, c13, e, x0, x1, x2, x3, x4, x5, x6, x7, x8, x9, x10, x11, x12, x13⟩ := elem_at hV.row hV.bel j (by omega) (by omega)
  subst e
  rw [hh] at x0
  have HL := Aside0.mk (And.intro hl1 hl2)
  obtain ⟨R, hR⟩ : ∃ R : Bool, l.all (rightB l.length) = R := ⟨_, rfl⟩
  rw [hR]
  have HR := Aside0.mk hR
  clear hR hV hl1 hl2 hh x1 x2 x3 x4 x5 x6 x7 x8 x9 x10 x11 x12 x13 hj
  go_enter Try.func11, Try.ntmps11
  go_wp2
  clear x0 ws q0 q1 b1 b2 v0 v1
  go_loopg [40] l.length (fun kq v40 w' => ∃ (i : Int), v40 = .int .i64 i ∧ Aside0 (0 ≤ i ∧ i ≤ l.length ∧ (kq : Int) = l.length - i) ∧ Aside0 ((l.drop i.toNat).all (rightB l.length) = R) ∧ Aside0 (Below W.heap.size W w'))
  case atStart => exact ⟨0, rfl, ⟨by omega, by omega, by omega⟩, ⟨HR.out⟩, ⟨Below.refl _ _⟩⟩
  case round =>
    clear HR
    obtain ⟨i, rfl, HI, HA, HW⟩ := hrel
    obtain ⟨h0, h1, h2⟩ := HI.out
    by_cases hlt : i < l.length
    · obtain ⟨ad2, A7, A8, A11, A13, c7, c8, c11, c13, e, x0, x1, x2, x3, x4, x5, x6, x7, x8, x9, x10, x11, x12, x13⟩ := elem_at HV.out.row (below_step HV.out.bel HW.out) i h0 hlt
      cases e
      have q0 := eq_true h0
      have q1 := eq_true hlt
      have b1 : decide (i < (l.length : Int)) = true := decide_eq_true hlt
      have ha := HA.out
      rw [rd33_drop l i h0 hlt, List.all_cons] at ha
      obtain ⟨y, hy⟩ : ∃ y, rd_T33 l i = y := ⟨_, rfl⟩
      rw [hy] at ha x0 x1 x2 x3 x4 x5 x6 x7 x8 x9 x10 x11 x12 x13
      have HD := Aside0.mk hlt
      have HA2 := Aside0.mk ha
      have HB := Aside0.mk (below_step HW.out (Below.alloc (Below.refl wr.heap.size wr) (Nat.le_refl _) (.cells (iv y A7 A8 A11 A13 c7 c8 c11 c13) 33)))
      clear HA h0 h1 h2 hlt hy ha
      have HM1 := Aside0.mk (perhaps_calls y.f3)
      have HM2 := Aside0.mk (perhaps_calls y.f4)
      go_upto_region 7 with (fail)
      go_cut [6] (fun v6 wc => v6 = .bool (curB y) ∧ wc = wr.alloc (.cells (iv y A7 A8 A11 A13 c7 c8 c11 c13) 33))
      case first =>
        clear HA2 HB HD HI HW HM1 HM2
        cases hc : decide (y.f1 ≥ 0)
        · go_wp2
          go_meet
          case rel => exact ⟨by simp [curB, hc], rfl⟩
        · go_wp2
          go_meet
          case rel => exact ⟨by simp [curB, hc], rfl⟩
      case rest =>
        obtain ⟨rfl, rfl⟩ := hcut
        generalize hcc : curB y = cc
        have HCC := Aside0.mk hcc
        clear hcc
        go_upto_region 8 with (fail)
        go_cut [7] (fun v7 wc => v7 = .bool (plaB l.length y) ∧ wc = wr.alloc (.cells (iv y A7 A8 A11 A13 c7 c8 c11 c13) 33))
        case first =>
          clear HA2 HB HD HI HW HM1 HM2 HCC
          cases hc : decide (y.f2 ≥ 0)
          · go_wp2
            go_meet
            case rel => exact ⟨by simp [plaB, hc], rfl⟩
          · go_wp2
            go_meet
            case rel => exact ⟨by simp [plaB, hc], rfl⟩
        case rest =>
          obtain ⟨rfl, rfl⟩ := hcut
          generalize hpp : plaB l.length y = pp
          have HPP := Aside0.mk hpp
          clear hpp
          go_upto_region 9 with (fail)
          go_cut [8] (fun v8 wc => v8 = .bool (modB y) ∧ wc = wr.alloc (.cells (iv y A7 A8 A11 A13 c7 c8 c11 c13) 33))
          case first =>
            clear HA2 HB HD HI HW HCC HPP
            cases hc : isKnown y.f3
            · go_wp2_with (first | (go_at_call 18; (with_reducible refine (HM1.out _).mono ?_); rintro e w2 ⟨rfl, rfl⟩; rw [hc]))
              go_meet
              case rel => exact ⟨by simp [modB, hc], rfl⟩
            · go_wp2_with (first | (go_at_call 18; (with_reducible refine (HM1.out _).mono ?_); rintro e w2 ⟨rfl, rfl⟩; rw [hc]) | (go_at_call 18; (with_reducible refine (HM2.out _).mono ?_); rintro e w2 ⟨rfl, rfl⟩))
              go_meet
              case rel => exact ⟨by simp [modB, hc], rfl⟩
          case rest =>
            obtain ⟨rfl, rfl⟩ := hcut
            generalize hmm : modB y = mm
            have HMM := Aside0.mk hmm
            clear hmm HM1 HM2
            go_upto_block 2 with (fail)
            go_cut [8] (fun v8 wc => v8 = .bool (rightG mm cc pp y) ∧ wc = wr.alloc (.cells (iv y A7 A8 A11 A13 c7 c8 c11 c13) 33))
            case first =>
              clear HA2 HB HD HI HW
              by_cases e1 : y.f0 = 1
              · have f1 : (y.f0 == 1) = true := by simpa using e1
                cases mm
                all_goals
                  cases h3 : (y.f3 != 0)
                  all_goals
                    go_wp2
                    go_meet
                    case rel => exact ⟨by simp [rightG, e1, h3], rfl⟩
              · have f1 : (y.f0 == 1) = false := by simpa using e1
                by_cases e2 : y.f0 = 2
                · have f2 : (y.f0 == 2) = true := by simpa using e2
                  cases mm
                  all_goals
                    cases cc
                    all_goals
                      go_wp2
                      go_meet
                      case rel => exact ⟨by simp [rightG, e1, e2], rfl⟩
                · have f2 : (y.f0 == 2) = false := by simpa using e2
                  by_cases e3 : y.f0 = 3
                  · have f3 : (y.f0 == 3) = true := by simpa using e3
                    cases mm
                    all_goals
                      cases cc
                      all_goals
                        go_wp2
                        go_meet
                        case rel => exact ⟨by simp [rightG, e1, e2, e3], rfl⟩
                  · have f3 : (y.f0 == 3) = false := by simpa using e3
                    by_cases e4 : y.f0 = 4
                    · have f4 : (y.f0 == 4) = true := by simpa using e4
                      cases mm
                      all_goals
                        cases cc
                        all_goals
                          cases pp
                          all_goals
                            go_wp2
                            go_meet
                            case rel => exact ⟨by simp [rightG, e1, e2, e3, e4], rfl⟩
                    · have f4 : (y.f0 == 4) = false := by simpa using e4
                      by_cases e8 : y.f0 = 8
                      · have f8 : (y.f0 == 8) = true := by simpa using e8
                        cases mm
                        all_goals
                          go_wp2
                          go_meet
                          case rel => exact ⟨by simp [rightG, e1, e2, e3, e4, e8], rfl⟩
                      · have f8 : (y.f0 == 8) = false := by simpa using e8
                        cases mm
                        all_goals
                          cases h9 : decide (y.f0 ≥ 1)
                          all_goals
                            go_wp2
                            go_meet
                            case rel => exact ⟨by simp [rightG, e1, e2, e3, e4, e8, h9], rfl⟩
            case rest =>
              obtain ⟨rfl, rfl⟩ := hcut
              have hg : rightG mm cc pp y = rightB l.length y := by rw [← HMM.out, ← HCC.out, ← HPP.out]; rfl
              have ha := HA2.out
              rw [← hg] at ha
              generalize rightG mm cc pp y = gg at ha
              cases gg
              · rw [Bool.false_and] at ha
                subst ha
                go_wp2
                go_ret
                exact ⟨rfl, HB.out⟩
              · rw [Bool.true_and] at ha
                have HA3 := Aside0.mk ha
                clear ha HA2
                go_wp2
                go_roundg (l.length - i.toNat - 1)
                case measure => obtain ⟨h0, h1, h2⟩ := HI.out; have := HD.out; omega
                case rel =>
                  obtain ⟨h0, h1, h2⟩ := HI.out
                  have hl := HV.out.len
                  have hd := HD.out
                  refine ⟨i + 1, ?_, ⟨by omega, by omega, by omega⟩, ⟨?_⟩, ⟨HB.out⟩⟩
                  · rw [w64i i h0 (by omega)]
                  · rw [show (i + 1).toNat = i.toNat + 1 by omega]
                    exact HA3.out
    · have b1 : decide (i < (l.length : Int)) = false := decide_eq_false hlt
      have ha := HA.out
      rw [List.drop_of_length_le (by omega), List.all_nil] at ha
      subst ha
      clear HA h1 h2 hlt h0
      go_wp2
      go_ret
      exact ⟨rfl, HW.out⟩
end Go.Proofs.Ytfnmploaklboiaa
