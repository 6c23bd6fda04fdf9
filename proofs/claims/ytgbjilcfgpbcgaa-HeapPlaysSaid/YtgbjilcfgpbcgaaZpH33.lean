import Derived.Test.YtgbjilcfgpbcgaaZpH32
/- Layer 8: the two heaps side by side: what a call on one leaves of the other. -/
namespace Go.Proofs.Ytgbjilcfgpbcgaa
open Go.RowKit Go.Proofs.YtgbjilcfgpbcgaaW.PrintWords Go.Proofs.YtgbjilcfgpbcgaaW.PrintLast Go.Proofs.YtgbjilcfgpbcgaaW.PrintMore
set_option linter.unusedSimpArgs false
set_option linter.unusedVariables false
theorem C_blocks {w W : World} {A : Option Addr} {n : Nat} {xs : List Int} (h : kb.C w A n xs) (hk : ∀ k, k < w.heap.size → W.heap[k]? = w.heap[k]?) : kb.C W A n xs := by
  have hr := Kd.reads_of_C (enc := Value.int .u8) (d := (0 : Int)) (h1 := fun _ => rfl) h
  refine Kd.C_of_reads (d := (0 : Int)) ⟨hr.1, hr.2.1, fun hn => ?_⟩
  obtain ⟨ad, e, hc⟩ := hr.2.2 hn
  exact ⟨ad, e, fun j hj => (World.cell?_of_block (hk _ (World.block_lt_of_cell? w _ (hc j hj)))).trans (hc j hj)⟩
/-- The call's own copy of the script's call (block go), and 'in', beside the two heaps. -/
structure Env (B : Nat) (w : World) (go : Nat) (cs : Array Value) (O O2 : Nat → Prop) (v : Value) (xs : List Int) : Prop where
  blk : w.heap[go]? = some (.cells cs 38 (0, 0))
  out : ¬ O go ∧ ¬ O2 go
  row : kb.R 5 w B (fun k => ¬ O k ∧ ¬ O2 k) v xs
theorem Env.below {B : Nat} {w w' : World} {go : Nat} {cs : Array Value} {O O2 : Nat → Prop} {v : Value} {xs : List Int} (h : Env B w go cs O O2 v xs) (hb : Below w.heap.size w w') : Env B w' go cs O O2 v xs :=
  ⟨(hb.block go (blk_lt h.blk)).trans h.blk, h.out, Kd.R_below h.row hb⟩
theorem Env.step {B : Nat} {w w' : World} {go : Nat} {cs : Array Value} {O O2 O' O2' : Nat → Prop} {v : Value} {xs : List Int} (h : Env B w go cs O O2 v xs) {T : Nat → Prop} (hk : Kept w w' T) (hT : ∀ k, T k → O k ∨ O2 k) (h1 : ∀ k, k < w.heap.size → O' k → O k) (h2 : ∀ k, k < w.heap.size → O2' k → O2 k) : Env B w' go cs O' O2' v xs := by
  have hl := blk_lt h.blk
  refine ⟨(hk.2 go hl fun ht => (hT go ht).elim h.out.1 h.out.2).trans h.blk, ⟨fun q => h.out.1 (h1 go hl q), fun q => h.out.2 (h2 go hl q)⟩, ?_⟩
  exact Kd.R_mono (ok := fun k => (¬ O k ∧ ¬ O2 k) ∧ k < w.heap.size) (Kd.R_step (Kd.R_mono (Kd.R_bound h.row) fun k hk => ⟨hk.1, hk.2.2.1⟩) fun k hk' hl => hk.2 k hl fun ht => (hT k ht).elim hk'.1.1 hk'.1.2) fun k hk => ⟨fun q => hk.1.1 (h1 k hk.2 q), fun q => hk.1.2 (h2 k hk.2 q)⟩
/-- Behind a call on the heap. -/
theorem side_h {B : Nat} {w w' : World} {hb : Nat} {S S' : St} {N N' : Int} {O O' : Nat → Prop} {g : Nat} {sl : List S51} {la : Int} {O2 : Nat → Prop} (hr : R8 B w g sl la O2) (hd : ∀ k, O k → ¬ O2 k) (hn : Nx B w hb O S' N' w' O') : R8 B w' g sl la O2 ∧ ∀ k, O' k → ¬ O2 k := by
  refine ⟨hr.kept hn.fr.kept fun k h2 h1 => hd k h1 h2, fun k h1 h2 => ?_⟩
  exact hd k (hn.old k (hr.own k h2).2 h1) h2
theorem H8.kept {B : Nat} {w w' : World} {hb : Nat} {S : St} {N : Int} {O : Nat → Prop} (h : H8 B w hb S N O) {T : Nat → Prop} (hk : Kept w w' T) (hn : ∀ k, O k → ¬ T k) : H8 B w' hb S N O :=
  ⟨h.at_.keep fun k ho hl => hk.2 k hl (hn k ho), fun k ho => ⟨(h.own k ho).1, Nat.lt_of_lt_of_le (h.own k ho).2 hk.1⟩, Nat.le_trans h.base hk.1, h.inv, h.rows⟩
/-- Behind a call on the reference's heap. -/
theorem side_r {B : Nat} {w w' : World} {hb : Nat} {S : St} {N : Int} {O : Nat → Prop} {g : Nat} {sl' : List S51} {la' : Int} {O2 O2' : Nat → Prop} (hh : H8 B w hb S N O) (hd : ∀ k, O k → ¬ O2 k) (hn : Nr B w g O2 sl' la' w' O2') : H8 B w' hb S N O ∧ ∀ k, O k → ¬ O2' k :=
  ⟨hh.kept hn.fr.kept hd, fun k h1 h2 => hd k h1 (hn.old k (hh.own k h1).2 h2)⟩
/-- 'in' is written: the heaps stay. -/
theorem J8.kept {B : Nat} {w w' : World} {hb : Nat} {S : St} {N : Int} {O : Nat → Prop} {g : Nat} {sl : List S51} {O2 : Nat → Prop} (h : J8 B w hb S N O g sl O2) {T : Nat → Prop} (hk : Kept w w' T) (hn : ∀ k, T k → ¬ O k ∧ ¬ O2 k) : J8 B w' hb S N O g sl O2 :=
  ⟨h.h.kept hk fun k ho ht => (hn k ht).1 ho, h.r.kept hk fun k ho ht => (hn k ht).2 ho, h.rel, h.trim, h.dis⟩
theorem add_eq {N : Int} {S : St} (hI : Inv N S) {sl : List S51} (hr : Rel S sl) (ht : Trim S) (row : List Int) : ∃ j, FirstFree sl j ∧ Rel (addP S row) (layR sl j ⟨S.last + 1, row⟩) ∧ Trim (addP S row) := by
  have h1 : Inv (N + 1) { S with last := S.last + 1 } := hI.bump
  have hr1 : Rel { S with last := S.last + 1 } sl := ⟨hr.at_, hr.free, hr.len⟩
  obtain ⟨hj, _⟩ := slot_first h1 hr1
  exact ⟨_, hj, rel_lay h1 hr1 (S.last + 1) row hj, trim_lay h1 (S := { S with last := S.last + 1 }) ht _ _⟩
theorem back_eq {N : Int} {S : St} (hI : Inv N S) {sl : List S51} (hr : Rel S sl) (ht : Trim S) (id : Int) (row : List Int) : ∃ j, FirstFree sl j ∧ Rel (if backB S id = true then layP S id row else S) (if backB S id = true then layR sl j ⟨id, row⟩ else sl) ∧ Trim (if backB S id = true then layP S id row else S) ∧ j ≤ sl.length := by
  obtain ⟨hj, _⟩ := slot_first hI hr
  refine ⟨_, hj, ?_, ?_, hj.le⟩
  · split
    · exact rel_lay hI hr id row hj
    · exact hr
  · split
    · exact trim_lay hI ht id row
    · exact ht
theorem drop_eq {N : Int} {S : St} (hI : Inv N S) {sl : List S51} (hr : Rel S sl) (ht : Trim S) (id r : Int) (hf : FindRes sl id r) : decide (r ≥ 0) = (findP S id).isSome ∧ Rel (dropP S id) (if r ≥ 0 then sl.set r.toNat ⟨0, []⟩ else sl) ∧ Trim (dropP S id) := by
  have h1 := find_rel hI hr hf
  refine ⟨?_, ?_, trim_drop hI ht id⟩
  · rw [h1]
    cases hp : findP S id with
    | none => rfl
    | some x => exact decide_eq_true (hI.sl x (find_some hp).1).1
  · cases hp : findP S id with
    | none =>
      rw [hp] at h1
      have h2 : r = -1 := h1
      rw [drop_none hp, if_neg (by omega)]
      exact hr
    | some x =>
      rw [hp] at h1
      have h2 : r = x.slot := h1
      have h3 := (hI.sl x (find_some hp).1).1
      rw [if_pos (by omega), h2]
      exact rel_drop hI hr hp (by omega)
end Go.Proofs.Ytgbjilcfgpbcgaa
