/- What the bound of an '..UptoSaid' gives of the texts of a row of values. -/
import Derived.Test.YthoemenchimggaaDoorBulk
import Derived.Test.YthoemenchimggaaDoorAx0
import Derived.Deep.Slices
import Derived.ChangeArms
namespace Go.Proofs.YthoemenchimggaaDoor.Bulks
open Go.ChangeShapes Go.WideShapes Go.RowKit Go.Deep Go.Joins Go.Proofs.YthoemenchimggaaDoorW.PrintWords A
theorem all_append {H : Type} : ∀ (a b : List (DataW H)), Rows.uptoBulkAll (a ++ b) = Rows.uptoBulkAll a + Rows.uptoBulkAll b
  | [], b => by simp [Rows.uptoBulkAll]
  | x :: a, b => by simp only [List.cons_append, Rows.uptoBulkAll, all_append a b]; omega
theorem le_all {H : Type} : ∀ (l : List (DataW H)) (i : Nat) (d : DataW H), l[i]? = some d → Rows.uptoBulk d ≤ Rows.uptoBulkAll l
  | [], i, d, h => by simp at h
  | x :: l, 0, d, h => by
    simp only [List.getElem?_cons_zero, Option.some.injEq] at h
    subst h; simp only [Rows.uptoBulkAll]; omega
  | x :: l, i + 1, d, h => by
    rw [List.getElem?_cons_succ] at h
    have := le_all l i d h
    simp only [Rows.uptoBulkAll]; omega
theorem value_bulk {H : Type} {enc : TypeId × Value → H} {W : World} {fuel : Nat} {cs : List Value} {x : DataW H × List MemPlace} {s : ByteArray}
    (h : DataW.trod enc Tryd.prog W 0 (fun _ => true) true fuel 35 cs = some x) (hs : cs[2]? = some (.string s)) : s.size + 1 ≤ Rows.uptoBulk x.1 := by
  obtain ⟨xs, n, rfl, rfl, hl, hx, hf⟩ := DataW.trod_struct Tryd.underlying35 h
  have h2 := hf 2 _ rfl
  have hc : Tryd.prog.cellsOf 35 = 3 := by kernel_rfl
  have h9 : Tryd.prog.cellsOf 9 = 1 := by kernel_rfl
  rw [hc] at hl
  have hcs : (cs.drop 2).take 1 = [.string s] := by
    obtain ⟨hlt, he⟩ := List.getElem?_eq_some_iff.1 hs
    rw [List.drop_eq_getElem_cons hlt, he]; rfl
  have h3 : DataW.trod enc Tryd.prog W 0 (fun _ => true) true n 9 [.string s] = xs[2]? := by
    rw [← hcs]
    have h5 : DataW.trod enc Tryd.prog W 0 (fun _ => true) true n 9 ((cs.drop 2).take (Tryd.prog.cellsOf 9)) = xs[2]? := h2
    rw [h9] at h5
    exact h5
  have hlt : 2 < xs.length := by rw [hx]; decide
  rw [List.getElem?_eq_getElem hlt] at h3
  obtain ⟨s', e1, e2, _⟩ := DataW.trod_string Tryd.underlying9 h3
  obtain rfl : s = s' := by injection e1 with e1 _; injection e1
  have h4 : (xs.map (·.1))[2]? = some (.lit (.string s.data.toList)) := by
    rw [List.getElem?_map, List.getElem?_eq_getElem hlt, e2]; rfl
  have := le_all _ 2 _ h4
  simp only [Rows.uptoBulk] at this ⊢
  have hsz : s.data.toList.length = s.size := by rw [Array.length_toList]; rfl
  omega
theorem text_bulk {W : World} {A0 : Option Addr} {n c : Nat} {l : List S35} {H : Type} {enc : TypeId × Value → H} {d : DataW H} {ps : List MemPlace}
    (h : DataW.Trod enc Tryd.prog W 0 (fun _ => true) true 22 (.slice A0 n c) d ps) (hl : l.length = n) (hc : Kd.C k35 W A0 n l) : l.length + (l.map fun x => x.f2.size).sum ≤ Rows.uptoBulk d := by
  obtain ⟨fuel, hf⟩ := h
  rcases open_slice Tryd.underlying22 hf with ⟨hcs, _⟩ | ⟨a, len, cap, m, k, D, Pl, hcs, _, hle, _, hm, hx, hel⟩
  · simp [Value.cells] at hcs
    obtain ⟨rfl, rfl, rfl⟩ := hcs
    have : l = [] := List.length_eq_zero_iff.1 hl
    subst this
    simp
  · simp [Value.cells] at hcs
    obtain ⟨rfl, rfl, rfl⟩ := hcs
    obtain ⟨hx, _⟩ := Prod.mk.inj hx
    subst hx
    have hc3 : Tryd.prog.cellsOf 35 = 3 := by kernel_rfl
    have hlm : n ≤ m := by rw [hm]; split <;> omega
    have key : ∀ i (hi : i < l.length), (l[i]).f2.size + 1 ≤ Rows.uptoBulk (D i) := by
      intro i hi
      obtain ⟨cs', h1, h2⟩ := hel i (by omega)
      rw [hc3] at h1
      obtain ⟨ad, e, _, _, hx2⟩ := at_T35 hc (i : Int) (by omega) (by omega)
      obtain rfl : a = ad := Option.some.inj e
      have h3 := (World.cells?_some h1).2.2 2 (by decide)
      have e1 : rd_T35 l (i : Int) = l[i] := by simp [rd_T35, List.getD, hi]
      rw [e1, Int.toNat_natCast] at hx2
      refine value_bulk h2 ?_
      rw [← h3]
      exact hx2
    have all : ∀ j, j ≤ l.length → j + ((l.take j).map fun x => x.f2.size).sum ≤ Rows.uptoBulkAll ((List.range j).map D) := by
      intro j
      induction j with
      | zero => intro _; simp
      | succ j ih =>
        intro hj
        have h1 := ih (by omega)
        have h2 := key j (by omega)
        rw [List.range_succ, List.map_append, all_append, List.take_succ_eq_append_getElem (by omega), List.map_append, List.sum_append]
        simp only [List.map_cons, List.map_nil, List.sum_cons, List.sum_nil, Rows.uptoBulkAll]
        omega
    have h4 := all l.length (Nat.le_refl _)
    rw [List.take_length, hl] at h4
    simp only [Rows.uptoBulk]
    omega
theorem size_le : ∀ (l : List S35) (x : S35), x ∈ l → x.f2.size ≤ (l.map fun x => x.f2.size).sum
  | [], x, h => by cases h
  | y :: l, x, h => by
    rw [List.map_cons, List.sum_cons]
    rcases List.mem_cons.1 h with rfl | h
    · omega
    · have := size_le l x h; omega
end Go.Proofs.YthoemenchimggaaDoor.Bulks
