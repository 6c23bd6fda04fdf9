/- Sieve and what it calls: the walks. -/
import Derived.Test.YtblbdepklmlcoaaDoorAx
import Derived.Test.YtblbdepklmlcoaaDoorWMore
import Derived.Test.YtblbdepklmlcoaaDoorWLast
import Derived.Lib.Hide
import Derived.LoopTactic
import Derived.Outline
namespace Go.Proofs.YtblbdepklmlcoaaDoor
open Go.RowKit Go.Proofs.YtblbdepklmlcoaaDoorW.PrintWords Go.Proofs.YtblbdepklmlcoaaDoorW.PrintLast Go.Proofs.YtblbdepklmlcoaaDoorW.PrintMore A
set_option linter.unusedVariables false
set_option linter.unusedSimpArgs false
def badV (t e : Int) : Bool := e == 0 && t != 1
theorem one_alloc (w : World) (o : Obj) : Below w.heap.size w (w.alloc o) := (Below.refl _ w).alloc (Nat.le_refl _) o
theorem ret_bool {a b : Bool} (h : a = b) : Ending.returned (.bool a) = .returned (.bool b) := by rw [h]
theorem clo_calls (t e : Int) (w : World) : Calls Tryd.prog 24 #[.agg #[.int .i64 t, .int .i64 e]] w fun en w' => en = .returned (.bool (badV t e)) ∧ Below w.heap.size w w' := by
  cases c1 : (e == 0)
  · have H := Lib.hid (show badV t e = false by unfold badV; rw [c1]; rfl)
    go_enter Tryd.func24, Tryd.ntmps24
    go_wp2
    go_ret
    exact ⟨ret_bool H.out.symm, one_alloc _ _⟩
  · cases c2 : (t != 1)
    all_goals
      have H := Lib.hid (show badV t e = (t != 1) by unfold badV; rw [c1]; rfl)
      rw [c2] at H
      go_enter Tryd.func24, Tryd.ntmps24
      go_wp2
      go_ret
      exact ⟨ret_bool H.out.symm, one_alloc _ _⟩
def idxF.l0 : Nat → List S24 → Int → Option Int
  | 0, _, _ => none
  | k + 1, l, i => if i < (l.length : Int) then (if 0 ≤ i then (if badV (rd_T24 l i).f0 (rd_T24 l i).f1 = true then some i else idxF.l0 k l (wrap64 (i + 1))) else none) else some (-1)
set_option maxHeartbeats 8000000 in
set_option maxRecDepth 100000 in
theorem idx_calls (k : Nat) (A0 : Option Addr) (c0 : Nat) (l0 : List S24) (r : Int) (w : World) (hr0 : Kd.C k24 w A0 l0.length l0) (hc0 : l0.length ≤ c0) (h : idxF.l0 k l0 0 = some r) :
    Calls Tryd.prog 25 #[.slice A0 l0.length c0, .func (.func 24) #[] #[]] w fun e w' => e = .returned (.int .i64 r) ∧ Below w.heap.size w w' := by
  have hu24 := Tryd.underlying24
  have HR0 := Aside0.mk hr0
  have HC0 := Aside0.mk hc0
  clear hr0 hc0
  have HB := Aside0.mk (Below.refl w.heap.size w)
  have H' := Aside0.mk h
  clear h
  go_enter Tryd.func25, Tryd.ntmps25
  go_wp2
  go_loopg [8] k (fun kq v8 w' => ∃ (x8_1 : Int), v8 = .int .i64 x8_1 ∧ Aside0 (idxF.l0 kq l0 x8_1 = some r) ∧ Aside0 (kq ≤ k) ∧ Aside0 (Below w.heap.size w w'))
  case atStart => exact ⟨(0), rfl, H', ⟨Nat.le_refl _⟩, ⟨HB.out⟩⟩
  case round =>
    clear H'
    obtain ⟨x8_1, rfl, HA, HK1, HB⟩ := hrel
    cases gk with
    | zero => exact absurd HA.out (by simp [idxF.l0])
    | succ k1 =>
      have H := HA.out
      clear HA
      simp only [idxF.l0] at H
      by_cases c2 : x8_1 < (l0.length : Int)
      · rw [if_pos c2] at H
        have c2b0 : decide (x8_1 < (l0.length : Int)) = true := decide_eq_true c2
        clear c2
        by_cases c3 : 0 ≤ x8_1
        · rw [if_pos c3] at H
          have c3b0 : decide (0 ≤ x8_1) = true := decide_eq_true c3
          clear c3
          have p107 : 0 ≤ (x8_1 : Int) := of_decide_eq_true (by first | (with_reducible assumption) | assumption)
          have q107 : x8_1 < (l0.length : Int) := of_decide_eq_true (by first | (with_reducible assumption) | assumption)
          obtain ⟨ad107, e107, hx107_0, hx107_1⟩ := at_T24 HR0.out x8_1 p107 q107
          cases e107
          replace hx107_0 := (HB.out.cell (World.block_lt_of_cell? w _ hx107_0)).trans hx107_0
          replace hx107_1 := (HB.out.cell (World.block_lt_of_cell? w _ hx107_1)).trans hx107_1
          replace p107 := eq_true p107
          replace q107 := eq_true q107
          by_cases c5 : badV (rd_T24 l0 x8_1).f0 (rd_T24 l0 x8_1).f1 = true
          · rw [if_pos c5] at H
            have C5 := Lib.hid c5; clear c5
            have E := Lib.hid (Option.some.inj H); clear H
            go_wp2_with (go_at_call 24; (with_reducible refine (clo_calls ((rd_T24 l0 x8_1).f0) ((rd_T24 l0 x8_1).f1) _).mono ?_); rw [C5.out]; rintro e w6 ⟨rfl, hb⟩; have n0_ := Aside0.mk (below_step HB.out hb); clear HB; have HB := n0_; clear n0_; clear hb)
            go_ret
            exact ⟨by rw [E.out]; rfl, HB.out⟩
          · rw [if_neg c5] at H
            have C5 := Lib.hid (show badV (rd_T24 l0 x8_1).f0 (rd_T24 l0 x8_1).f1 = false by simpa using c5); clear c5
            have H' := Aside0.mk H; clear H
            go_wp2_with (go_at_call 24; (with_reducible refine (clo_calls ((rd_T24 l0 x8_1).f0) ((rd_T24 l0 x8_1).f1) _).mono ?_); rw [C5.out]; rintro e w6 ⟨rfl, hb⟩; have n0_ := Aside0.mk (below_step HB.out hb); clear HB; have HB := n0_; clear n0_; clear hb)
            go_roundg k1
            case measure => have := HK1.out; omega
            case rel => exact ⟨wrap64 (x8_1 + 1), rfl, H', ⟨by have := HK1.out; omega⟩, HB⟩
        · rw [if_neg c3] at H; cases H
      · rw [if_neg c2] at H
        have c2b0 : decide (x8_1 < (l0.length : Int)) = false := decide_eq_false c2
        clear c2
        have E := Lib.hid (Option.some.inj H); clear H
        go_wp2
        go_ret
        exact ⟨by rw [← E.out]; rfl, HB.out⟩
theorem w64n (i : Nat) (h : i < 9223372036854775807) : wrap64 ((i : Int) + 1) = ((i + 1 : Nat) : Int) := by simp only [wrap64]; omega
theorem rd_at (l : List S24) (i : Nat) (h : i < l.length) : rd_T24 l (i : Int) = l[i] := by simp [rd_T24, List.getD, h]
def bad (x : S24) : Bool := badV x.f0 x.f1
theorem idx_at : ∀ (m : Nat) (l : List S24) (i g : Nat), l.length - i ≤ m → i ≤ l.length → l.length < 9223372036854775807 →
    ∃ r, idxF.l0 (m + g + 1) l i = some r ∧ decide (r ≥ 0) = (l.drop i).any bad := by
  intro m
  induction m with
  | zero =>
    intro l i g hm hi hl
    have : i = l.length := by omega
    subst this
    exact ⟨-1, by rw [idxF.l0, if_neg (by omega)], by simp⟩
  | succ m ih =>
    intro l i g hm hi hl
    rw [show m + 1 + g + 1 = (m + g + 1) + 1 by omega, idxF.l0]
    by_cases h : i < l.length
    · rw [if_pos (by omega), if_pos (by omega), rd_at l i h, w64n i (by omega), List.drop_eq_getElem_cons h, List.any_cons]
      by_cases hb : bad l[i] = true
      · refine ⟨i, ?_, ?_⟩
        · show (if bad l[i] = true then _ else _) = _
          rw [if_pos hb]
        · rw [hb]; simp
      · obtain ⟨r, h1, h2⟩ := ih l (i + 1) g (by omega) (by omega) hl
        refine ⟨r, ?_, ?_⟩
        · show (if bad l[i] = true then _ else _) = _
          rw [if_neg hb]; exact h1
        · rw [h2]; simp [hb]
    · have : i = l.length := by omega
      subst this
      exact ⟨-1, by rw [if_neg (by omega)], by simp⟩
theorem any_calls (A0 : Option Addr) (c0 : Nat) (l0 : List S24) (w : World) (hr0 : Kd.C k24 w A0 l0.length l0) (hc0 : l0.length ≤ c0) (hl : l0.length < 9223372036854775807) :
    Calls Tryd.prog 23 #[.slice A0 l0.length c0, .func (.func 24) #[] #[]] w fun e w' => e = .returned (.bool (l0.any bad)) ∧ Below w.heap.size w w' := by
  obtain ⟨r, h1, h2⟩ := idx_at l0.length l0 0 0 (by omega) (by omega) hl
  have H2 := Lib.hid h2; clear h2
  go_enter Tryd.func23, Tryd.ntmps23
  go_wp2_with (go_at_call 25; (with_reducible refine (idx_calls _ A0 c0 l0 r _ hr0 hc0 h1).mono ?_); rintro e w1 ⟨rfl, hb⟩)
  go_ret
  exact ⟨ret_bool H2.out, hb⟩
def sieveF.l0 : Nat → List S24 → Int → Int → Option Int
  | 0, _, _, _ => none
  | k + 1, l, i, e => if i < (l.length : Int) then (if 0 ≤ i then ((logic_Worse.f e (rd_T24 l i).f1).bind fun t => sieveF.l0 k l (wrap64 (i + 1)) t) else none) else some e
set_option maxHeartbeats 8000000 in
set_option maxRecDepth 100000 in
theorem sieve_good (k : Nat) (A0 : Option Addr) (c0 : Nat) (l0 : List S24) (r : Int) (w : World) (hr0 : Kd.C k24 w A0 l0.length l0) (hc0 : l0.length ≤ c0) (hl : l0.length < 9223372036854775807) (hg : l0.any bad = false) (h : sieveF.l0 k l0 0 0 = some r) :
    Calls Tryd.prog 16 #[.slice A0 l0.length c0] w fun e w' => e = .returned (.tuple #[.bool (r == 0), .int .i64 r]) ∧ Below w.heap.size w w' := by
  have hu24 := Tryd.underlying24
  have HR0 := Aside0.mk hr0
  have HC0 := Aside0.mk hc0
  have G := Lib.hid hg
  clear hr0 hc0 hg
  have HB := Aside0.mk (Below.refl w.heap.size w)
  have H' := Aside0.mk h
  clear h
  go_enter Tryd.func16, Tryd.ntmps16
  go_wp2_with (go_at_call 23; (with_reducible refine (any_calls A0 c0 l0 _ HR0.out HC0.out hl).mono ?_); rw [G.out]; rintro e w1 ⟨rfl, hb⟩; have n0_ := Aside0.mk (below_step HB.out hb); clear HB; have HB := n0_; clear n0_; clear hb)
  go_loopg [4, 11] k (fun kq v4 v11 w' => ∃ (x4_1 x11_1 : Int), v4 = .int .i64 x4_1 ∧ v11 = .int .i64 x11_1 ∧ Aside0 (sieveF.l0 kq l0 x11_1 x4_1 = some r) ∧ Aside0 (kq ≤ k) ∧ Aside0 (Below w.heap.size w w'))
  case atStart => exact ⟨0, 0, rfl, rfl, H', ⟨Nat.le_refl _⟩, HB⟩
  case round =>
    clear H'
    obtain ⟨x4_1, x11_1, rfl, rfl, HA, HK1, HB⟩ := hrel
    cases gk with
    | zero => exact absurd HA.out (by simp [sieveF.l0])
    | succ k1 =>
      have H := HA.out
      clear HA
      simp only [sieveF.l0] at H
      by_cases c2 : x11_1 < (l0.length : Int)
      · rw [if_pos c2] at H
        have c2b0 : decide (x11_1 < (l0.length : Int)) = true := decide_eq_true c2
        clear c2
        by_cases c3 : 0 ≤ x11_1
        · rw [if_pos c3] at H
          have c3b0 : decide (0 ≤ x11_1) = true := decide_eq_true c3
          clear c3
          replace H := Option.bind_eq_some_iff.mp H
          obtain ⟨t, A40, H⟩ := H
          have A4 := Aside0.mk A40
          clear A40
          have H' := Aside0.mk H; clear H
          have p107 : 0 ≤ (x11_1 : Int) := of_decide_eq_true (by first | (with_reducible assumption) | assumption)
          have q107 : x11_1 < (l0.length : Int) := of_decide_eq_true (by first | (with_reducible assumption) | assumption)
          obtain ⟨ad107, e107, hx107_0, hx107_1⟩ := at_T24 HR0.out x11_1 p107 q107
          cases e107
          replace hx107_0 := (HB.out.cell (World.block_lt_of_cell? w _ hx107_0)).trans hx107_0
          replace hx107_1 := (HB.out.cell (World.block_lt_of_cell? w _ hx107_1)).trans hx107_1
          replace p107 := eq_true p107
          replace q107 := eq_true q107
          go_wp2_with (go_at_call 14; (with_reducible refine (logic_Worse.calls x4_1 ((rd_T24 l0 x11_1).f1) t _ A4.out).mono ?_); rintro e w6 ⟨rfl, hb⟩; have n0_ := Aside0.mk (below_step (by repeat (first | exact HB.out | apply below_alloc)) hb); clear HB; have HB := n0_; clear n0_; clear hb)
          go_roundg k1
          case measure => have := HK1.out; omega
          case rel => exact ⟨t, wrap64 (x11_1 + 1), rfl, rfl, H', ⟨by have := HK1.out; omega⟩, HB⟩
        · rw [if_neg c3] at H; cases H
      · rw [if_neg c2] at H
        have c2b0 : decide (x11_1 < (l0.length : Int)) = false := decide_eq_false c2
        clear c2
        obtain rfl := Option.some.inj H; clear H
        go_wp2
        go_ret2
        exact ⟨rfl, HB.out⟩
theorem sieve_bad (A0 : Option Addr) (c0 : Nat) (l0 : List S24) (w : World) (hr0 : Kd.C k24 w A0 l0.length l0) (hc0 : l0.length ≤ c0) (hl : l0.length < 9223372036854775807) (hg : l0.any bad = true) :
    Calls Tryd.prog 16 #[.slice A0 l0.length c0] w fun e w' => e = .returned (.tuple #[.bool false, .int .i64 0]) ∧ Below w.heap.size w w' := by
  have G := Lib.hid hg
  clear hg
  go_enter Tryd.func16, Tryd.ntmps16
  go_wp2_with (go_at_call 23; (with_reducible refine (any_calls A0 c0 l0 _ hr0 hc0 hl).mono ?_); rw [G.out]; rintro e w1 ⟨rfl, hb⟩)
  go_ret2
  exact ⟨rfl, hb⟩
end Go.Proofs.YtblbdepklmlcoaaDoor
