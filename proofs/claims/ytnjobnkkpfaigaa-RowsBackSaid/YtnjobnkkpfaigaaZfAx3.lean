import Derived.Test.YtnjobnkkpfaigaaZfAx0
import Derived.Test.YtnjobnkkpfaigaaZfAx1
import Derived.Test.YtnjobnkkpfaigaaZfAx2
namespace Go.Proofs.Ytnjobnkkpfaigaa.A
open Go.RowKit Go.Proofs.YtnjobnkkpfaigaaW.PrintWords Go.Proofs.YtnjobnkkpfaigaaW.PrintLast Go.Proofs.YtnjobnkkpfaigaaW.PrintMore
attribute [local go_sem] max2_int min2_int max_two min_two max_three min_three max_four min_four   -- for this text's walks alone
set_option linter.unusedVariables false
set_option linter.unusedSimpArgs false
/-! ### haspref06_Decode: function 18 -/
mutual
def haspref06_Decode.l0 : Nat → List (S47) → List Int → List (S43) → List (S43) → Int → Option ((List (S43)) × Int)
  | 0, _, _, _, _, _ => none
  | k + 1, x0, x1, x6, x7, x8 => if (wrap64 (x8 * 8)) < (x0.length : Int) then (haspref06_Decode.l0 k x0 x1 x6 x7 (wrap64 (x8 + 1))) else (if (x1.length : Int) < x8 then (some (x6, 3)) else (haspref06_Decode.l1 k x0 x1 x6 x7 x8 (x0.length : Int)))
def haspref06_Decode.l1 : Nat → List (S47) → List Int → List (S43) → List (S43) → Int → Int → Option ((List (S43)) × Int)
  | 0, _, _, _, _, _, _ => none
  | k + 1, x0, x1, x6, x7, x8, x9 => if x9 < (wrap64 (x8 * 8)) then ((haspref06_bit.f x1 x9).bind fun t117 => (if t117 = true then (some (x6, 2)) else (haspref06_Decode.l1 k x0 x1 x6 x7 x8 (wrap64 (x9 + 1))))) else (haspref06_Decode.l2 k x0 x1 x6 x7 x8 0)
def haspref06_Decode.l2 : Nat → List (S47) → List Int → List (S43) → List (S43) → Int → Int → Option ((List (S43)) × Int)
  | 0, _, _, _, _, _, _ => none
  | k + 1, x0, x1, x6, x7, x10, x11 => if x11 < (x0.length : Int) then ((haspref06_bit.f x1 x11).bind fun t118 => (if t118 = true then (if 0 ≤ x11 then (if (rd_T47 x0 x11).f2 = true then (some (x6, 60)) else (if x7.length < 4398046511104 then (haspref06_Decode.l2 k x0 x1 x6 (x7 ++ [(⟨0, 0, (⟨#[]⟩ : ByteArray)⟩ : S43)]) x10 (wrap64 (x11 + 1))) else (none))) else (none)) else (if 0 ≤ x11 then ((haspref06_one.f k ((rd_T47 x0 x11).f1) x1 x10).bind fun bt124 => (if bt124.2.2.2.2 = 0 then (if x7.length < 4398046511104 then (haspref06_Decode.l2 k x0 x1 x6 (x7 ++ [(⟨bt124.1, bt124.2.1, bt124.2.2.1⟩ : S43)]) bt124.2.2.2.1 (wrap64 (x11 + 1))) else (none)) else (some (x6, bt124.2.2.2.2)))) else (none)))) else (if x10 < (x1.length : Int) then (some (x6, 4)) else (some (x7, 0)))
end
def haspref06_Decode.f (k : Nat) (l0 : List (S47)) (l1 : List Int) : Option ((List (S43)) × Int) := haspref06_Decode.l0 k l0 l1 (([] : List (S43))) (([] : List (S43))) 0
/-! ### haspref06_CopyCols: function 9 -/
def haspref06_CopyCols.l0 : Nat → List (S47) → List (S47) → Int → Option ((List (S47)))
  | 0, _, _, _ => none
  | k + 1, x0, x3, x4 => if x4 < (x0.length : Int) then (if 0 ≤ x4 then (if x3.length < 4398046511104 then (haspref06_CopyCols.l0 k x0 (x3 ++ [(⟨(rd_T47 x0 x4).f0, (rd_T47 x0 x4).f1, (rd_T47 x0 x4).f2⟩ : S47)]) (wrap64 (x4 + 1))) else (none)) else (none)) else (some x3)
def haspref06_CopyCols.f (k : Nat) (l0 : List (S47)) : Option ((List (S47))) := haspref06_CopyCols.l0 k l0 (([] : List (S47))) 0
/-- A state of type 56 at block g of W; what its slices lead to came in by w0. -/
def IsS56 (w0 W : World) (g : Nat) (f0 : List Int) (f1 : Int) : Prop := ∃ A0 c0, W.heap[g]? = some (.cells #[.slice A0 f0.length c0, .int .i64 f1] 56 (0, 0)) ∧ w0.heap.size ≤ g ∧ Kd.C (Kd.int .u8) w0 A0 f0.length f0
theorem IsS56.grown {w0 W : World} {g : Nat} {f0 : List Int} {f1 : Int} {W1 : World} {row : Option Nat} (h : IsS56 w0 W g f0 f1) (hw : W.grownBy W1 row) (hne : some g ≠ row) : IsS56 w0 W1 g f0 f1 := by
  obtain ⟨A0, c0, hb, hg, hr0⟩ := h
  exact ⟨A0, c0, blk_grown hb hw hne, hg, hr0⟩
theorem IsS56.kept {w0 W : World} {g : Nat} {f0 : List Int} {f1 : Int} {W1 : World} {S : Nat → Prop} (h : IsS56 w0 W g f0 f1) (hk : Kept W W1 S) (hne : ¬ S g) : IsS56 w0 W1 g f0 f1 := by
  obtain ⟨A0, c0, hb, hg, hr0⟩ := h
  exact ⟨A0, c0, blk_kept hb hk hne, hg, hr0⟩
theorem IsS56.below {w0 W : World} {g : Nat} {f0 : List Int} {f1 : Int} {W1 : World} (h : IsS56 w0 W g f0 f1) (hw : Below W.heap.size W W1) : IsS56 w0 W1 g f0 f1 := h.grown (grown_of_below hw none) (by simp)
theorem IsS56.alloc {w0 W : World} {g : Nat} {f0 : List Int} {f1 : Int} (h : IsS56 w0 W g f0 f1) (o : Obj) : IsS56 w0 (W.alloc o) g f0 f1 := h.below (below_alloc (Below.refl _ _) o)
theorem IsS56.drewN {w0 W : World} {g : Nat} {f0 : List Int} {f1 : Int} (h : IsS56 w0 W g f0 f1) (m : Nat) : IsS56 w0 (W.drewN m) g f0 f1 := h
theorem IsS56.drew {w0 W : World} {g : Nat} {f0 : List Int} {f1 : Int} (h : IsS56 w0 W g f0 f1) : IsS56 w0 W.drew g f0 f1 := h
theorem IsS56.at_ {w0 W : World} {g : Nat} {f0 : List Int} {f1 : Int} {w' : World} {m : Nat} (hq : W.drewN m = w') (h : IsS56 w0 W g f0 f1) : IsS56 w0 w' g f0 f1 := by subst hq; exact IsS56.drewN h m
theorem IsS56.apart {w0 W : World} {g : Nat} {f0 : List Int} {f1 : Int} {α : Type} {d : Kd α} {e : Nat} {base : Nat} {ok : Nat → Prop} {v : Value} {xs : List α} (h : IsS56 w0 W g f0 f1) (ho : d.R e W base ok v xs) (ht : ∀ q, q ∈ e :: d.E → q ≠ 56) : d.R e W base (fun k => ok k ∧ k ≠ g) v xs := by
  obtain ⟨A0, c0, hb, hg, hr0⟩ := h
  exact Kd.R_types ho hb ht
theorem IsS56.own_ne {w0 W : World} {g : Nat} {f0 : List Int} {f1 : Int} {α : Type} {d : Kd α} {e : Nat} {base : Nat} {ok : Nat → Prop} {v : Value} {xs : List α} (h : IsS56 w0 W g f0 f1) (ho : d.R e W base ok v xs) (ht : e ≠ 56) : some g ≠ v.ownBlock := by
  obtain ⟨A0, c0, hb, hg, hr0⟩ := h
  exact Kd.R_ne ho hb ht
theorem IsS56.lt {w0 W : World} {g : Nat} {f0 : List Int} {f1 : Int} (h : IsS56 w0 W g f0 f1) : g < W.heap.size := by
  obtain ⟨A0, c0, hb, hg, hr0⟩ := h
  exact blk_lt hb
theorem IsS56.far {w0 W : World} {g : Nat} {f0 : List Int} {f1 : Int} {p : Addr} (h : IsS56 w0 W g f0 f1) (hne : g ≠ p.block) (u : Value) : IsS56 w0 (W.setCell p u) g f0 f1 := by
  obtain ⟨A0, c0, hb, hg, hr0⟩ := h
  exact ⟨A0, c0, blk_far hb hne u, hg, hr0⟩
/-! ### rows_cutter_fail: function 23 -/
def rows_cutter_fail.f (s0_0 : List Int) (s0_1 : Int) (a1 : Int) : Option (Int) := if s0_1 = 0 then (some a1) else (some s0_1)
/-! ### rows_bitmap: function 19 -/
def rows_bitmap.f (a0 : Int) : Option (Int) := some (wrap64 (Int.tdiv (wrap64 (a0 + 7)) 8))
set_option maxHeartbeats 8000000 in
set_option maxRecDepth 100000 in
theorem rows_bitmap.calls (a0 : Int) (r : Int) (w : World) (h : rows_bitmap.f a0 = some r) :
    Calls Try.prog 19 #[.int .i64 a0] w fun e w' => e = .returned (.int .i64 r) ∧ Drawn0 w w' := by
  have H : (some (wrap64 (Int.tdiv (wrap64 (a0 + 7)) 8))) = some r := h
  clear h
  obtain rfl := Option.some.inj H
  go_enter Try.func19, Try.ntmps19
  go_wp2
  go_ret
  exact ⟨by first | rfl | (simp; done) | (simp [*]; done), by repeat (first | exact Drawn0.refl _ | apply Drawn0.step)⟩
/-! ### haspref02_CopyRow: function 10 -/
def haspref02_CopyRow.l0 : Nat → List (S43) → List (S43) → Int → Option ((List (S43)))
  | 0, _, _, _ => none
  | k + 1, x0, x3, x4 => if x4 < (x0.length : Int) then (if 0 ≤ x4 then (if x3.length < 4398046511104 then (haspref02_CopyRow.l0 k x0 (x3 ++ [(⟨(rd_T43 x0 x4).f0, (rd_T43 x0 x4).f1, (rd_T43 x0 x4).f2⟩ : S43)]) (wrap64 (x4 + 1))) else (none)) else (none)) else (some x3)
def haspref02_CopyRow.f (k : Nat) (l0 : List (S43)) : Option ((List (S43))) := haspref02_CopyRow.l0 k l0 (([] : List (S43))) 0
end Go.Proofs.Ytnjobnkkpfaigaa.A
