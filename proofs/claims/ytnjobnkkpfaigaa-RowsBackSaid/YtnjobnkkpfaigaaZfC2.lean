import Derived.RangeFuncNested
import Derived.RangeFuncBound
import Derived.RangeFuncCalls
import Derived.RangeFuncLeaves
import Derived.RangeFuncFrom
import Derived.Shelf.Abstract
import Derived.Shelf.RegionOpen
import Derived.WalkKit
import Derived.OwnWalkIn
import Derived.TacticsInMore
import Derived.LoopNIn
import Derived.LoopIn
import Derived.Test.YtnjobnkkpfaigaaZfC1
/- slices.Backward over bytes: its contract as an iterator. -/
namespace Go.Proofs.Ytnjobnkkpfaigaa
open Go.RowKit Go.Shelf Go.Proofs.YtnjobnkkpfaigaaW.PrintWords A
attribute [local go_sem] Oper.semAt_some
set_option linter.unusedVariables false
set_option linter.unusedSimpArgs false
def upto {α : Type} (f : Nat → α) (k : Nat) : List α := (List.range k).map f
theorem upto_succ {α : Type} (f : Nat → α) (k : Nat) : upto f (k + 1) = upto f k ++ [f k] := by simp [upto, List.range_succ]
theorem upto_length {α : Type} (f : Nat → α) (k : Nat) : (upto f k).length = k := by simp [upto]
/-- All below n stays but block g. -/
def Bel (n g : Nat) (A B : World) : Prop := B.os = A.os ∧ B.tape = A.tape ∧ B.output = A.output ∧ A.heap.size ≤ B.heap.size ∧ ∀ k, k < n → k ≠ g → B.heap[k]? = A.heap[k]?
theorem Bel.refl (n g : Nat) (A : World) : Bel n g A A := ⟨rfl, rfl, rfl, Nat.le_refl _, fun _ _ _ => rfl⟩
theorem Bel.trans {n g : Nat} {A B C : World} (h : Bel n g A B) (k : Bel n g B C) : Bel n g A C :=
  ⟨k.1.trans h.1, k.2.1.trans h.2.1, k.2.2.1.trans h.2.2.1, Nat.le_trans h.2.2.2.1 k.2.2.2.1, fun i hi hg => (k.2.2.2.2 i hi hg).trans (h.2.2.2.2 i hi hg)⟩
theorem Bel.cell {n g : Nat} {A B : World} (h : Bel n g A B) {p : Addr} (hp : p.block < n) (hg : p.block ≠ g) : B.cell? p = A.cell? p :=
  World.cell?_of_block (w := A) (h.2.2.2.2 p.block hp hg)
theorem bel_b {n₀ g : Nat} {w : World} (hn : n₀ ≤ w.heap.size) (W : World) (l : Nat) (o o' : Obj) (hl : w.heap.size ≤ l) (h : W.heap[l]? = some o) (_ : o.isCells = false) (_ : o.isWalk = false) : Bel n₀ g W (W.putObj l o') :=
  ⟨rfl, rfl, rfl, by simp, fun k hk hg => World.putObj_heap_other (by omega)⟩
/-- What is handed to the rounds: the places from the last one down. -/
def downAt (zs : List Int) (len : Nat) (k : Nat) : Int × Int := (((len - 1 - k : Nat) : Int), zs[len - 1 - k]?.getD 0)
set_option maxRecDepth 100000 in
set_option maxHeartbeats 2000000 in
theorem back1_in (F : Fence) (n : Nat) (h8 : F.fn 34) (hro : F.round = none) (hn : 1 ≤ n) (l Bs n₀ g : Nat) (ad : Addr) (len cap : Nat) (zs : List Int) (hreach : len ≤ 140737488351232) (hb : ad.block < n₀) (hbg : ad.block ≠ g) (hs : Bs < n₀) (hsg : Bs ≠ g) (J Jx : List (Int × Int) → World → Prop)
    (hY : ∀ pre x W, J pre W → pre.length < len → YieldAt F (n - 1) Try.prog l #[.int .i64 x.1, .int .u8 x.2] W fun e W' =>
      (e = .returned (.bool true) ∧ J (pre ++ [x]) W' ∧ Bel n₀ g W W') ∨ (e = .returned (.bool false) ∧ Jx (pre ++ [x]) W'))
    (W : World) (hBs : W.cell? ⟨Bs, 0, none⟩ = some (.slice (some ad) len cap)) (hc : ∀ j, j < len → W.cell? (ad.add j) = some (.int .u8 (zs[j]?.getD 0))) (h0 : J [] W) :
    CallsIn F n Try.prog 34 #[.func (.yield l) #[] #[], .pointer (some ⟨Bs, 0, none⟩)] W fun e W' => (∃ v, e = .returned v) ∧
      ((∃ ys, ys = upto (downAt zs len) len ∧ J ys W') ∨ (∃ pre, (∃ k, k ≤ len ∧ pre = upto (downAt zs len) k) ∧ Jx pre W')) := by
  refine callsIn_of_wp Try.func34 rfl h8 ?_ hro
  simp only [Try.ntmps34, List.size_toArray, List.length_cons, List.length_nil, Nat.reduceAdd, Nat.reduceSub, Array.replicate_succ, Array.replicate_zero, List.push_toArray, List.append_toArray, List.nil_append, List.cons_append]
  gi_wp2
  gi_loopw [3] (fun i wr => ∃ k : Nat, k ≤ len ∧ i = .int .i64 ((len : Int) - 1 - k) ∧ J (upto (downAt zs len) k) wr ∧ Bel n₀ g W wr)
    (fun i _ => (intOf i + 1).toNat)
  case atStart => exact ⟨0, Nat.zero_le _, by simp, h0, Bel.refl _ _ _⟩
  case round =>
    obtain ⟨k, hk, rfl, hJs, hnx⟩ := hrel
    have hBs' := (hnx.cell (p := ⟨Bs, 0, none⟩) hs hsg).trans hBs
    have hcx : k < len → wr.cell? (ad.add (len - 1 - k)) = some (.int .u8 (zs[len - 1 - k]?.getD 0)) := fun h => (hnx.cell (p := ad.add (len - 1 - k)) (by rw [add_block]; exact hb) (by rw [add_block]; exact hbg)).trans (hc _ (by omega))
    by_cases hlt : k < len
    · have hi : (len : Int) - 1 - k = ((len - 1 - k : Nat) : Int) := by omega
      rw [hi]
      obtain ⟨fn, tmps, assign, body, hy, hR⟩ := hY _ (downAt zs len k) wr hJs (by rw [upto_length]; exact hlt)
      dsimp only [downAt] at hy
      have hcx' := hcx hlt
      have hge : decide (((len - 1 - k : Nat) : Int) ≥ 0) = true := decide_eq_true (by omega)
      gi_wp2
      refine hR.mono ?_
      rintro e W3 (⟨rfl, hJ3, hk3⟩ | ⟨rfl, hJx3⟩)
      · gi_wp2
        go_roundw
        case rel => exact ⟨k + 1, by omega, by simp; omega, by rw [upto_succ]; exact hJ3, hnx.trans hk3⟩
        case measure => simp [intOf]
      · gi_wp2
        refine bodyPost_ret (results_none rfl _ _ _) rfl ?_
        exact ⟨⟨_, rfl⟩, .inr ⟨_, ⟨k + 1, by omega, (upto_succ _ _).symm⟩, hJx3⟩⟩
    · obtain rfl : k = len := by omega
      have hge : decide ((k : Int) - 1 - k ≥ 0) = false := decide_eq_false (by omega)
      gi_wp2
      go_end0
      exact ⟨⟨_, rfl⟩, .inl ⟨_, rfl, hJs⟩⟩
theorem back_stops (F : Fence) (n : Nat) (h8 : F.fn 34) (hro : F.round = none) (hn : 1 ≤ n) (Bs n₀ g : Nat) (ad : Addr) (len cap : Nat) (zs : List Int) (hreach : len ≤ 140737488351232) (hb : ad.block < n₀) (hbg : ad.block ≠ g) (hs : Bs < n₀) (hsg : Bs ≠ g) (w : World) (hn₀ : n₀ ≤ w.heap.size)
    (hBs : w.cell? ⟨Bs, 0, none⟩ = some (.slice (some ad) len cap)) (hc : ∀ j, j < len → w.cell? (ad.add j) = some (.int .u8 (zs[j]?.getD 0))) :
    SeqStopsK F n Try.prog 34 #[.pointer (some ⟨Bs, 0, none⟩)] (fun x : Int × Int => #[Value.int .i64 x.1, Value.int .u8 x.2]) (Bel n₀ g) (fun ys => ys = upto (downAt zs len) len)
      (fun pre => ∃ k, k ≤ len ∧ pre = upto (downAt zs len) k) len w := fun l J Jx W hW _ _ hY h0 =>
  back1_in F n h8 hro hn l Bs n₀ g ad len cap zs hreach hb hbg hs hsg J Jx hY W ((hW.cell (p := ⟨Bs, 0, none⟩) (Nat.lt_of_lt_of_le hs hn₀)).trans hBs) (fun j hj => (hW.cell (p := ad.add j) (by rw [add_block]; exact Nat.lt_of_lt_of_le hb hn₀)).trans (hc j hj)) h0
set_option maxHeartbeats 1000000 in
theorem back_in (F : Fence) (n : Nat) (h6 : F.fn 29) (hro : F.round = none) (a : Option Addr) (len cap : Nat) (w : World) :
    CallsIn F n Try.prog 29 #[.slice a len cap] w fun e w' => e = .returned (.func (.func 34) #[] #[.pointer (some ⟨w.heap.size, 0, none⟩)]) ∧ w' = w.alloc (.cells #[.slice a len cap] 27) := by
  refine callsIn_of_wp Try.func29 rfl h6 ?_ hro
  simp only [Try.ntmps29, List.size_toArray, List.length_cons, List.length_nil, Nat.reduceAdd, Nat.reduceSub, Array.replicate_succ, Array.replicate_zero, List.push_toArray, List.append_toArray, List.nil_append, List.cons_append]
  gi_wp2
  go_ret
  exact ⟨rfl, rfl⟩
end Go.Proofs.Ytnjobnkkpfaigaa
