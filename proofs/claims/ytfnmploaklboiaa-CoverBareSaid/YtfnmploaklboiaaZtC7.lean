import Derived.Test.YtfnmploaklboiaaZtC6
import Derived.StillTailTactics
/- cover: shape whole; locks. -/
namespace Go.Proofs.Ytfnmploaklboiaa
open Go.RowKit Go.Proofs.YtfnmploaklboiaaW.PrintWords A
set_option linter.unusedSimpArgs false
set_option linter.unusedVariables false
set_option maxHeartbeats 2000000 in
set_option maxRecDepth 100000 in
theorem shape_calls (w0 W : World) (g mb ob : Nat) (t : ByteArray) (A : Option Addr) (l : List S33) (c : Nat) (hV : Vw w0 W g mb ob t A l c) :
    Calls Try.prog 11 #[.pointer (some ⟨g, 0, none⟩)] W fun e w' => e = .returned (.bool (shapeB l)) ∧ Below W.heap.size W w' := by
  by_cases h1 : (l.length : Int) < 1
  · have e : shapeB l = false := by unfold shapeB; rw [decide_eq_true h1]; rfl
    rw [e]
    have v0 := hV.c0
    have v1 := hV.c1
    have b1 : decide ((l.length : Int) < 1) = true := decide_eq_true h1
    clear hV h1 e
    go_enter Try.func11, Try.ntmps11
    go_wp2
    go_ret
    exact ⟨rfl, Below.refl _ _⟩
  · by_cases h2 : (l.length : Int) > 4096
    · have e : shapeB l = false := by unfold shapeB; rw [decide_eq_true h2]; simp
      rw [e]
      have v0 := hV.c0
      have v1 := hV.c1
      have b1 : decide ((l.length : Int) < 1) = false := decide_eq_false h1
      have b2 : decide ((l.length : Int) > 4096) = true := decide_eq_true h2
      clear hV h1 h2 e
      go_enter Try.func11, Try.ntmps11
      go_wp2
      go_ret
      exact ⟨rfl, Below.refl _ _⟩
    · by_cases h3 : (rd_T33 l ((l.length : Int) - 1)).f0 = 12
      · have e : shapeB l = l.all (rightB l.length) := by
          unfold shapeB
          rw [decide_eq_false h1, decide_eq_false h2, h3]
          simp
        rw [e]
        exact shape_loop w0 W g mb ob t A l c hV (by omega) (by omega) h3
      · have e : shapeB l = false := by
          have : ((rd_T33 l ((l.length : Int) - 1)).f0 != 12) = true := bne_iff_ne.2 h3
          unfold shapeB
          rw [this]
          simp
        rw [e]
        have v0 := hV.c0
        have v1 := hV.c1
        have b1 : decide ((l.length : Int) < 1) = false := decide_eq_false h1
        have b2 : decide ((l.length : Int) > 4096) = false := decide_eq_false h2
        obtain ⟨j, hj⟩ : ∃ j : Int, (l.length : Int) - 1 = j := ⟨_, rfl⟩
        have ws : wrap64 ((l.length : Int) - 1) = j := by simp only [wrap64]; omega
        have q0 : (0 ≤ j) = True := eq_true (by omega)
        have q1 : (j < (l.length : Int)) = True := eq_true (by omega)
        rw [hj] at h3
        obtain ⟨ad, A7, A8, A11, A13, c7, c8, c11, c13, e2, x0, x1, x2, x3, x4, x5, x6, x7, x8, x9, x10, x11, x12, x13⟩ := elem_at hV.row hV.bel j (by omega) (by omega)
        subst e2
        have b3 : ((rd_T33 l j).f0 != 12) = true := bne_iff_ne.2 h3
        clear hV h1 h2 h3 hj e x1 x2 x3 x4 x5 x6 x7 x8 x9 x10 x11 x12 x13
        go_enter Try.func11, Try.ntmps11
        go_wp2
        go_ret
        exact ⟨rfl, Below.refl _ _⟩
/-- Do the locks stand at the beginning alone? prev: may a lock stand here? -/
def lkB : Bool → List S33 → Bool
  | _, [] => true
  | prev, x :: t => (if x.f0 = 1 then prev else true) && lkB (x.f0 == 1) t
/-- A table's mode. -/
def modeF (l : List S33) (s : ByteArray) : Int := l.foldl (fun m x => if x.f0 = 1 ∧ x.f5 = s then joinT m x.f3 else m) 0
theorem keyS_inj {s t : ByteArray} (h : keyS s = keyS t) : s = t := by
  injection h with h
  exact ByteArray.ext (Array.toList_inj.1 h)
theorem modeF_snoc (l : List S33) (x : S33) (s : ByteArray) : modeF (l ++ [x]) s = if x.f0 = 1 ∧ x.f5 = s then joinT (modeF l s) x.f3 else modeF l s := by
  unfold modeF
  rw [List.foldl_append]
  rfl
theorem below_grown {B : Nat} {w0 w w1 : World} {b : Nat} (h : Below B w0 w) (hg : w.grownBy w1 (some b)) (hb : B ≤ b) (hB : B ≤ w.heap.size) : Below B w0 w1 :=
  ⟨hg.os.trans h.os, hg.tape.trans h.tape, hg.output.trans h.output, Nat.le_trans h.size hg.size, fun i hi => (hg.block i (Nat.lt_of_lt_of_le hi hB) (fun e => by injection e with e; omega)).trans (h.block i hi)⟩
theorem grown_below {w w1 w2 : World} {r : Option Nat} (h : w.grownBy w1 r) (hb : Below w1.heap.size w1 w2) : w.grownBy w2 r :=
  ⟨hb.os.trans h.os, hb.tape.trans h.tape, hb.output.trans h.output, Nat.le_trans h.size hb.size, fun k hk hr => (hb.block k (Nat.lt_of_lt_of_le hk h.size)).trans (h.block k hk hr)⟩
theorem grown_refl (w : World) (r : Option Nat) : w.grownBy w r := ⟨rfl, rfl, rfl, Nat.le_refl _, fun _ _ _ => rfl⟩
theorem grown_again {w w1 w2 : World} {b : Nat} (h : w.grownBy w1 (some b)) (k : w1.grownBy w2 (some b)) : w.grownBy w2 (some b) :=
  ⟨k.os.trans h.os, k.tape.trans h.tape, k.output.trans h.output, Nat.le_trans h.size k.size, fun i hi hr => (k.block i (Nat.lt_of_lt_of_le hi h.size) hr).trans (h.block i hi hr)⟩
/-- The map of the modes, as the first k instructions have made it. -/
def ModeM (w : World) (mb : Nat) (l : List S33) (k : Nat) : Prop := ∃ F n, MapF 9 w mb n F ∧ n ≤ k ∧ ∀ s, (F (keyS s)).getD (.int .i64 0) = .int .i64 (modeF (l.take k) s)
theorem take_snoc33 (l : List S33) (i : Int) (h0 : 0 ≤ i) (h1 : i < l.length) : l.take (i.toNat + 1) = l.take i.toNat ++ [rd_T33 l i] := by
  have hh : i.toNat < l.length := by omega
  rw [List.take_succ_eq_append_getElem hh]
  unfold rd_T33
  rw [List.getD_eq_getElem?_getD, List.getElem?_eq_getElem hh]; rfl
set_option maxHeartbeats 4000000 in
set_option maxRecDepth 100000 in
theorem locks_calls (w0 W : World) (g mb ob : Nat) (t : ByteArray) (A : Option Addr) (l : List S33) (c : Nat) (hV : Vw w0 W g mb ob t A l c) (hs : ∀ x ∈ l, x.f5.size ≤ maxLen) (hM : MapF 9 W mb 0 (fun _ => none)) (hgm : g ≠ mb) (hmb : w0.heap.size ≤ mb) :
    Calls Try.prog 12 #[.pointer (some ⟨g, 0, none⟩)] W fun e w' => e = .returned (.bool (lkB true l)) ∧ W.grownBy w' (some mb) ∧ (lkB true l = true → ModeM w' mb l l.length) := by
  have v0 := hV.c0
  have v1 := hV.c1
  have HV := Aside0.mk hV
  have HS := Aside0.mk hs
  have HG := Aside0.mk (And.intro hgm hmb)
  obtain ⟨R, hR⟩ : ∃ R : Bool, lkB true l = R := ⟨_, rfl⟩
  rw [hR]
  have HR := Aside0.mk hR
  have HM := Aside0.mk hM
  clear hR hV hs hgm hmb hM
  go_enter Try.func12, Try.ntmps12
  go_wp2
  clear v0 v1
  go_loopg [11] l.length (fun kq v11 w' => ∃ (i : Int), v11 = .int .i64 i ∧ Aside0 (0 ≤ i ∧ i ≤ l.length ∧ (kq : Int) = l.length - i) ∧ Aside0 (lkB (decide (i ≤ 0) || ((rd_T33 l (i - 1)).f0 == 1)) (l.drop i.toNat) = R) ∧ Aside0 (W.grownBy w' (some mb)) ∧ Aside0 (ModeM w' mb l i.toNat))
  case atStart => exact ⟨0, rfl, ⟨by omega, by omega, by omega⟩, ⟨HR.out⟩, ⟨grown_refl _ _⟩, ⟨_, 0, HM.out, Nat.le_refl _, fun s => rfl⟩⟩
  case round =>
    clear HR HM
    obtain ⟨i, rfl, HI, HA, HW, HM⟩ := hrel
    obtain ⟨h0, h1, h2⟩ := HI.out
    have hB : Below w0.heap.size w0 wr := below_grown HV.out.bel HW.out HG.out.2 HV.out.bel.size
    by_cases hlt : i < l.length
    · obtain ⟨ad, A7, A8, A11, A13, c7, c8, c11, c13, e, x0, x1, x2, x3, x4, x5, x6, x7, x8, x9, x10, x11, x12, x13⟩ := elem_at HV.out.row hB i h0 hlt
      cases e
      have q0 := eq_true h0
      have q1 := eq_true hlt
      have b1 : decide (i < (l.length : Int)) = true := decide_eq_true hlt
      have ha := HA.out
      rw [rd33_drop l i h0 hlt, lkB] at ha
      have hsn := take_snoc33 l i h0 hlt
      have hmem : rd_T33 l i ∈ l := by
        have : rd_T33 l i ∈ l.drop i.toNat := by rw [rd33_drop l i h0 hlt]; exact List.mem_cons_self ..
        exact List.mem_of_mem_drop this
      have hsz := HS.out _ hmem
      have HEQ : Aside0 (i + 1 - 1 = i) := ⟨by omega⟩
      obtain ⟨y, hy⟩ : ∃ y, rd_T33 l i = y := ⟨_, rfl⟩
      have HY := Aside0.mk hy
      rw [hy] at ha x0 x1 x2 x3 x4 x5 x6 x7 x8 x9 x10 x11 x12 x13 hsn hsz
      have HD := Aside0.mk hlt
      have HSN := Aside0.mk hsn
      have HSZ := Aside0.mk hsz
      have hnew := Below.alloc (Below.refl wr.heap.size wr) (Nat.le_refl _) (.cells (iv y A7 A8 A11 A13 c7 c8 c11 c13) 33)
      have HB := Aside0.mk (grown_below HW.out hnew)
      have HM1 : Aside0 (ModeM (wr.alloc (.cells (iv y A7 A8 A11 A13 c7 c8 c11 c13) 33)) mb l i.toNat) := by
        obtain ⟨F, n, m1, m2, m3⟩ := HM.out
        exact ⟨F, n, m1.kept (World.grownBy_alloc _ _ none) (by simp), m2, m3⟩
      have gv := HV.out.blk
      have gv1 : wr.heap[g]? = _ := (HW.out.block g (blk_lt gv) (by simp [HG.out.1])).trans gv
      have gv2 := (hnew.block g (blk_lt gv1)).trans gv1
      have v1 : (wr.alloc (.cells (iv y A7 A8 A11 A13 c7 c8 c11 c13) 33)).cell? ⟨g, 1, none⟩ = some (.slice (some ad) l.length c) := (blk_cell gv2 1).trans rfl
      have v2 : (wr.alloc (.cells (iv y A7 A8 A11 A13 c7 c8 c11 c13) 33)).cell? ⟨g, 2, none⟩ = some (.map (some mb)) := (blk_cell gv2 2).trans rfl
      have HNEW := Aside0.mk hnew
      clear HA h1 h2 hy hB hsn hmem hsz hnew gv gv1 gv2
      by_cases hop : y.f0 = 1
      · rw [if_pos hop] at ha
        have n1 : (y.f0 != 1) = false := bne_eq_false_iff_eq.2 hop
        have HOP := Aside0.mk hop
        clear hop
        have hbad : ∃ bad : Bool, (!bad) = (decide (i ≤ 0) || ((rd_T33 l (i - 1)).f0 == 1)) := ⟨!(decide (i ≤ 0) || ((rd_T33 l (i - 1)).f0 == 1)), by simp⟩
        obtain ⟨bad, hbad⟩ := hbad
        rw [← hbad] at ha
        have HBAD := Aside0.mk hbad
        have HA2 := Aside0.mk ha
        clear ha hbad
        go_upto_region 5 with (fail)
        go_cut [33] (fun v33 wc => v33 = .bool bad ∧ wc = wr.alloc (.cells (iv y A7 A8 A11 A13 c7 c8 c11 c13) 33))
        case first =>
          have h0 := of_eq_true q0
          have hlt := of_eq_true q1
          clear x0 x1 x2 x3 x4 x5 x6 x7 x8 x9 x10 x11 x12 x13 q0 q1 b1
          by_cases hi : i > 0
          · have g1 : decide (i > 0) = true := decide_eq_true hi
            obtain ⟨j, hj⟩ : ∃ j : Int, i - 1 = j := ⟨_, rfl⟩
            have ws : wrap64 (i - 1) = j := by have := HV.out.len; simp only [wrap64]; omega
            have q0 : (0 ≤ j) = True := eq_true (by omega)
            have q1 : (j < (l.length : Int)) = True := eq_true (by omega)
            obtain ⟨ad2, B7, B8, B11, B13, d7, d8, d11, d13, e, z0, z1, z2, z3, z4, z5, z6, z7, z8, z9, z10, z11, z12, z13⟩ := elem_at HV.out.row (below_step (below_grown HV.out.bel HW.out HG.out.2 HV.out.bel.size) HNEW.out) j (by omega) (by omega)
            cases e
            have hbb := HBAD.out
            rw [hj] at hbb
            have g2 : ((rd_T33 l j).f0 != 1) = bad := by
              have hz : decide (i ≤ 0) = false := decide_eq_false (by omega)
              rw [hz, Bool.false_or] at hbb
              unfold bne
              rw [← hbb, Bool.not_not]
            clear hbb hi z1 z2 z3 z4 z5 z6 z7 z8 z9 z10 z11 z12 z13 h0 hlt hj
            clear HA2 HBAD HSN HSZ HB HM1 HM HW HI
            go_wp2
            go_meet
            case rel => exact ⟨by first | rfl | rw [g2], rfl⟩
          · have g1 : decide (i > 0) = false := decide_eq_false hi
            have hbb : bad = false := by
              have hz : decide (i ≤ 0) = true := decide_eq_true (by omega)
              have := HBAD.out
              rw [hz, Bool.true_or] at this
              simpa using this
            subst hbb
            clear HA2 HBAD HSN HSZ HB HM1 HM HW HI hi h0 hlt
            go_wp2
            go_meet
            case rel => exact ⟨rfl, rfl⟩
        case rest =>
          obtain ⟨rfl, rfl⟩ := hcut
          cases bad
          · have ha := HA2.out
            rw [Bool.not_false, Bool.true_and] at ha
            have HA3 := Aside0.mk ha
            clear ha HA2 HBAD
            obtain ⟨F, n, m1, m2, m3⟩ := HM1.out
            have HN := Aside0.mk (And.intro m2 (And.intro m3 HNEW.out))
            have HM2 := Aside0.mk m1
            clear HM HM1 HW HNEW
            go_upto_region 7 with (fail)
            have hbx := heap_alloc_new wr (.cells (iv y A7 A8 A11 A13 c7 c8 c11 c13) 33)
            have y3 : (wr.alloc (.cells (iv y A7 A8 A11 A13 c7 c8 c11 c13) 33)).cell? ⟨wr.heap.size, 3, none⟩ = some (.int .i64 y.f3) := (blk_cell hbx 3).trans rfl
            have y5 : (wr.alloc (.cells (iv y A7 A8 A11 A13 c7 c8 c11 c13) 33)).cell? ⟨wr.heap.size, 5, none⟩ = some (.string y.f5) := (blk_cell hbx 5).trans rfl
            clear hbx m1 m2 m3 x0 x1 x2 x3 x4 x5 x6 x7 x8 x9 x10 x11 x12 x13
            generalize wr.alloc (.cells (iv y A7 A8 A11 A13 c7 c8 c11 c13) 33) = W1 at v1 v2 y3 y5 HB HM2 HN ⊢
            obtain ⟨h0', h1', h2'⟩ := HI.out
            have hlen := HV.out.len
            have hnn : n < maxLen := by have := HN.out.1; unfold maxLen; omega
            have M2 : MapF 9 W1.drew mb n F := HM2.out.blk rfl
            obtain ⟨m, hm⟩ : ∃ m, modeF (l.take i.toNat) y.f5 = m := ⟨_, rfl⟩
            have hlook := M2.look keyedS und37 (zero3 W1.drew) (isKeyS y.f5) (keyOfS y.f5 HSZ.out)
            rw [HN.out.2.1 y.f5, hm] at hlook
            obtain ⟨W3, hst, hM3, hG3⟩ := M2.store keyedS und37 hnn (val := .int .i64 (joinT m y.f3)) (isKeyS y.f5) (keyOfS y.f5 HSZ.out)
            have HB2 : Aside0 (W.grownBy W3 (some mb)) := ⟨grown_again (show W.grownBy W1.drew (some mb) from ⟨HB.out.os, HB.out.tape, HB.out.output, HB.out.size, HB.out.block⟩) hG3⟩
            have HM3 : Aside0 (ModeM W3 mb l (i + 1).toNat) := ⟨⟨_, n + 1, hM3, by have := HN.out.1; omega, fun s => by
              have et : (i + 1).toNat = i.toNat + 1 := by omega
              rw [et, HSN.out, modeF_snoc]
              unfold updF
              by_cases e : y.f5 = s
              · subst e
                rw [if_pos rfl, if_pos ⟨HOP.out, rfl⟩, hm]; rfl
              · rw [if_neg (fun h => e (keyS_inj h).symm), if_neg (fun q => e q.2)]
                exact HN.out.2.1 s⟩⟩
            have w1 : W1.drew.cell? ⟨g, 1, none⟩ = some (.slice (some ad) l.length c) := v1
            have w2 : W1.drew.cell? ⟨g, 2, none⟩ = some (.map (some mb)) := v2
            have w3 : W1.drew.cell? ⟨wr.heap.size, 3, none⟩ = some (.int .i64 y.f3) := y3
            have w5 : W1.drew.cell? ⟨wr.heap.size, 5, none⟩ = some (.string y.f5) := y5
            clear v1 v2 y3 y5 hM3 hG3 M2 hm hnn hlen h0' h1' h2' HB HM2 HN
            refine wp_region_still_tail 16 (by kernel_rfl) (by kernel_rfl) ?_
            simp only [List.take_succ_cons, List.take_zero, List.drop_succ_cons, List.drop_zero]
            change wpStill _ _ W1.drew (fun a' => wpList _ _ _ _ a' W1.drew) _ _
            generalize W1.drew = W2 at hlook hst w1 w2 w3 w5 ⊢
            repeat still_step
            still_call ((join_calls m y.f3 W2).mono (fun e w' h => ⟨h.1, h.2.symm⟩))
            repeat still_step
            refine wpStill_nil ?_
            go_wp2
            go_roundg (l.length - i.toNat - 1)
            case measure => obtain ⟨h0, h1, h2⟩ := HI.out; have := HD.out; omega
            case rel =>
              obtain ⟨h0, h1, h2⟩ := HI.out
              have hl := HV.out.len
              have hd := HD.out
              have et : (i + 1).toNat = i.toNat + 1 := by omega
              refine ⟨i + 1, ?_, ⟨by omega, by omega, by omega⟩, ⟨?_⟩, HB2, HM3⟩
              · rw [w64i i h0 (by omega)]
              · have := HA3.out
                rw [HEQ.out, HY.out, et]
                have e1 : decide (i + 1 ≤ 0) = false := decide_eq_false (by omega)
                rw [e1, Bool.false_or]
                exact this
          · have ha := HA2.out
            rw [Bool.not_true, Bool.false_and] at ha
            subst ha
            go_wp2
            go_ret
            exact ⟨rfl, HB.out, fun h => by cases h⟩
      · rw [if_neg hop, Bool.true_and] at ha
        have n1 : (y.f0 != 1) = true := bne_iff_ne.2 hop
        have HOP := Aside0.mk hop
        have HA2 := Aside0.mk ha
        clear ha hop
        go_wp2
        go_roundg (l.length - i.toNat - 1)
        case measure => obtain ⟨h0, h1, h2⟩ := HI.out; have := HD.out; omega
        case rel =>
          obtain ⟨h0, h1, h2⟩ := HI.out
          have hl := HV.out.len
          have hd := HD.out
          have et : (i + 1).toNat = i.toNat + 1 := by omega
          refine ⟨i + 1, ?_, ⟨by omega, by omega, by omega⟩, ⟨?_⟩, ⟨HB.out⟩, ⟨?_⟩⟩
          · rw [w64i i h0 (by omega)]
          · have := HA2.out
            rw [HEQ.out, HY.out, et]
            have e1 : decide (i + 1 ≤ 0) = false := decide_eq_false (by omega)
            rw [e1, Bool.false_or]
            exact this
          · obtain ⟨F, n, m1, m2, m3⟩ := HM1.out
            refine ⟨F, n, m1, by omega, fun s => ?_⟩
            rw [et, HSN.out, modeF_snoc, if_neg (fun q => HOP.out q.1)]
            exact m3 s
    · have b1 : decide (i < (l.length : Int)) = false := decide_eq_false hlt
      have ha := HA.out
      rw [List.drop_of_length_le (by omega), lkB] at ha
      subst ha
      have hm := HM.out
      have e1 : i.toNat = l.length := by omega
      rw [e1] at hm
      have HM2 := Aside0.mk hm
      clear HA h1 h2 hlt h0 hm hB
      go_wp2
      go_ret
      exact ⟨rfl, HW.out, by simpa using HM2.out⟩
end Go.Proofs.Ytfnmploaklboiaa
