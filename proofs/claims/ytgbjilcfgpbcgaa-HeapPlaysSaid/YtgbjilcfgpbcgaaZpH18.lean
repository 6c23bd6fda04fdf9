import Derived.Test.YtgbjilcfgpbcgaaZpH17
/- Layer 8: what came in (calls of a script); the plain law of HeapBacks. -/
namespace Go.Proofs.Ytgbjilcfgpbcgaa
open Go.RowKit Go.Proofs.YtgbjilcfgpbcgaaW.PrintWords Go.Proofs.YtgbjilcfgpbcgaaW.PrintLast Go.Proofs.YtgbjilcfgpbcgaaW.PrintMore
set_option linter.unusedSimpArgs false
set_option linter.unusedVariables false
/-- A call of a script. -/
structure S38 where
  f0 : Int
  f1 : Int
  f2 : List Int
def z38 : S38 := ⟨0, 0, []⟩
def k38 : Kd S38 := Kd.iso (Kd.pair (Kd.int .i64) (Kd.pair (Kd.int .i64) (Kd.slice 5 (Kd.int .u8)))) (fun x : S38 => (x.f0, x.f1, x.f2))
theorem k38_open {w : World} {x : S38} {cs : List Value} (h : k38.K w x cs) : ∃ A1 c1, cs = [.int .i64 x.f0, .int .i64 x.f1, .slice A1 x.f2.length c1] ∧ x.f2.length ≤ c1 ∧ (Kd.int .u8).C w A1 x.f2.length x.f2 := by
  obtain ⟨_, _, rfl, rfl, ⟨_, _, rfl, rfl, ⟨A1, c1, rfl, l1, g1⟩⟩⟩ := h
  exact ⟨A1, c1, rfl, l1, g1⟩
def rd38 (xs : List S38) (i : Nat) : S38 := xs.getD i z38
theorem at38 {w : World} {A : Option Addr} {n : Nat} {xs : List S38} (h : Kd.C k38 w A n xs) (i : Nat) (h1 : i < n) : ∃ ad A1 c1, A = some ad ∧ w.cell? (ad.add (i * 3)) = some (.int .i64 (rd38 xs i).f0) ∧ w.cell? ⟨(ad.add (i * 3)).block, (ad.add (i * 3)).off + 1, none⟩ = some (.int .i64 (rd38 xs i).f1) ∧ w.cell? ⟨(ad.add (i * 3)).block, (ad.add (i * 3)).off + 2, none⟩ = some (.slice A1 (rd38 xs i).f2.length c1) ∧ (rd38 xs i).f2.length ≤ c1 ∧ (Kd.int .u8).C w A1 (rd38 xs i).f2.length (rd38 xs i).f2 := by
  obtain ⟨ad, c, e, _, hK, hc0⟩ := Kd.C_get h z38 (i : Int) (by omega) (by omega)
  rw [Int.toNat_natCast] at hK hc0
  have hc : ∀ j u, c[j]? = some u → w.cell? (ad.add (i * 3 + j)) = some u := hc0
  obtain ⟨A1, c1, rfl, l1, g1⟩ := k38_open hK
  exact ⟨ad, A1, c1, e, hc 0 _ rfl, by rw [← add_field _ _ 1 (by omega)]; exact hc 1 _ rfl, by rw [← add_field _ _ 2 (by omega)]; exact hc 2 _ rfl, l1, g1⟩
theorem rd38_mem {xs : List S38} {i : Nat} (h : i < xs.length) : rd38 xs i ∈ xs := by
  have : rd38 xs i = xs[i] := by simp [rd38, List.getD, h]
  rw [this]; exact List.getElem_mem _
/-- The same in a later world: what came in is as it was. -/
theorem at38B {w W : World} {A : Option Addr} {n : Nat} {xs : List S38} (h : Kd.C k38 w A n xs) (hB : Below w.heap.size w W) (i : Nat) (h1 : i < n) : ∃ ad A1 c1, A = some ad ∧ W.cell? (ad.add (i * 3)) = some (.int .i64 (rd38 xs i).f0) ∧ W.cell? ⟨(ad.add (i * 3)).block, (ad.add (i * 3)).off + 1, none⟩ = some (.int .i64 (rd38 xs i).f1) ∧ W.cell? ⟨(ad.add (i * 3)).block, (ad.add (i * 3)).off + 2, none⟩ = some (.slice A1 (rd38 xs i).f2.length c1) ∧ (rd38 xs i).f2.length ≤ c1 ∧ ∀ W2, Below w.heap.size w W2 → kb.C W2 A1 (rd38 xs i).f2.length (rd38 xs i).f2 := by
  obtain ⟨ad, A1, c1, e, g0, g1, g2, hl, hC⟩ := at38 h i h1
  exact ⟨ad, A1, c1, e, (hB.cell (World.block_lt_of_cell? w _ g0)).trans g0, (hB.cell (World.block_lt_of_cell? w _ g1)).trans g1, (hB.cell (World.block_lt_of_cell? w _ g2)).trans g2, hl, fun W2 hB2 => Kd.C_below hC hB2⟩
/-- A row goes and comes back. -/
theorem back_ok {N : Int} {S : St} (hI : Inv N S) {id : Int} {x : Ent} (hf : findP S id = some x) : backB (dropP S id) id = true := by
  obtain ⟨hx, he⟩ := find_some hf
  have hr := hI.idr x hx
  rw [he] at hr
  unfold backB
  rw [drop_last, decide_eq_true hr.1, decide_eq_true hr.2]
  have : findP (dropP S id) id = none := List.find?_eq_none.2 fun e he' => by
    have := ((mem_drop hI hf e).1 he').2
    simpa using this
  rw [this]; rfl
end Go.Proofs.Ytgbjilcfgpbcgaa
