/- Package keys' reader: the walks. -/
import Derived.Test.YthoemenchimggaaDoorAx
import Derived.Test.YthoemenchimggaaDoorB1
import Derived.Lib.Hide
import Derived.LoopTactic
import Derived.Outline
namespace Go.Proofs.YthoemenchimggaaDoor
open Go.RowKit Go.Proofs.YthoemenchimggaaDoorW.PrintWords Go.Proofs.YthoemenchimggaaDoorW.PrintLast Go.Proofs.YthoemenchimggaaDoorW.PrintMore A Fl
set_option linter.unusedVariables false
set_option linter.unusedSimpArgs false
abbrev kb : Kd Int := Kd.int .u8
/-- The reader's one variable: what is left of the bytes. -/
def Rdr (w0 W : World) (g : Nat) (xs : List Int) : Prop :=
  ∃ A0 c0, xs.length ≤ c0 ∧ W.heap[g]? = some (.cells #[.slice A0 xs.length c0] 54 (0, 0)) ∧ w0.heap.size ≤ g ∧ kb.C w0 A0 xs.length xs
theorem Rdr.step {w0 W W1 : World} {g : Nat} {xs : List Int} (h : Rdr w0 W g xs) (hb : Below W.heap.size W W1) : Rdr w0 W1 g xs := by
  obtain ⟨A0, c0, h1, h2, h3, h4⟩ := h
  exact ⟨A0, c0, h1, (hb.block g (blk_lt h2)).trans h2, h3, h4⟩
theorem Rdr.lt {w0 W : World} {g : Nat} {xs : List Int} (h : Rdr w0 W g xs) : g < W.heap.size := by
  obtain ⟨A0, c0, h1, h2, h3, h4⟩ := h
  exact blk_lt h2
theorem Rdr.ge {w0 W : World} {g : Nat} {xs : List Int} (h : Rdr w0 W g xs) : w0.heap.size ≤ g := by
  obtain ⟨A0, c0, h1, h2, h3, h4⟩ := h
  exact h3
/-- How a reading gives up. -/
def trb (c : Int) : List PanicEntry := [{ v := .iface 50 (.agg #[.int .i64 c]), recovered := false }]
def TakePost (w0 w : World) (g : Nat) (xs : List Int) (n : Nat) (en : Ending) (w' : World) : Prop :=
  ∃ A c, en = .returned (.slice A n c) ∧ n ≤ c ∧ kb.C w0 A n (xs.take n) ∧ Rdr w0 w' g (xs.drop n) ∧ Below w0.heap.size w0 w' ∧ KeepBut w w' g none
theorem take_ok (g : Nat) (xs : List Int) (n : Nat) (w0 w : World) (hI : Rdr w0 w g xs) (hB : Below w0.heap.size w0 w) (hl : n ≤ xs.length) :
    Calls Tryd.prog 38 #[.pointer (some ⟨g, 0, none⟩), .int .i64 n] w (TakePost w0 w g xs n) := by
  unfold TakePost
  obtain ⟨A0, c0, h1, h2, h3, h4⟩ := hI
  have k0 : w.cell? ⟨g, 0, none⟩ = some (.slice A0 xs.length c0) := (blk_cell h2 0).trans rfl
  have f0 := blk_frozen h2 0
  have H2 := Aside0.mk h2
  clear h2
  have c1 : decide ((xs.length : Int) < (n : Int)) = false := decide_eq_false (by omega)
  go_enter Tryd.func38, Tryd.ntmps38
  go_wp2
  all_goals
    refine bodyPost_ret (results_tmp rfl _ _ _) rfl ?_
    refine ⟨A0, _, rfl, by omega, ?_, ?_, below_set hB h3, (KeepBut.refl _ _ _).set_ _ _⟩
    · have := Kd.C_take (k := kb) h4 (m := n) (by omega)
      rwa [List.length_take, Nat.min_eq_left (by omega)] at this
    · have h6 := Kd.C_drop (k := kb) h4 (m := n) (by omega) h1
      refine ⟨_, c0 - n, ?_, ?_, h3, h6⟩
      · rw [List.length_drop]; omega
      · rw [show kb.sz = 1 from rfl, Nat.mul_one, List.length_drop]
        simpa [h] using blk_set H2.out 0 _
theorem take_no (g : Nat) (xs : List Int) (n : Nat) (w0 w : World) (hI : Rdr w0 w g xs) (hB : Below w0.heap.size w0 w) (hl : xs.length < n) :
    Calls Tryd.prog 38 #[.pointer (some ⟨g, 0, none⟩), .int .i64 n] w fun en w' => en = .panicked (trb 3) ∧ w = w' := by
  obtain ⟨A0, c0, h1, h2, h3, h4⟩ := hI
  have k0 : w.cell? ⟨g, 0, none⟩ = some (.slice A0 xs.length c0) := (blk_cell h2 0).trans rfl
  have f0 := blk_frozen h2 0
  have H2 := Aside0.mk h2
  clear h2
  have c1 : decide ((xs.length : Int) < (n : Int)) = true := decide_eq_true (by omega)
  go_enter Tryd.func38, Tryd.ntmps38
  go_wp2
  exact ⟨rfl, rfl, rfl⟩
def stepN (u c : Int) : Int := bits .or .u64 (IntKind.u64.wrap (u * 256)) (IntKind.u64.wrap c)
def numU (ys : List Int) : Int := ys.foldl stepN 0
theorem numU_snoc (ys : List Int) (c : Int) : numU (ys ++ [c]) = stepN (numU ys) c := by simp [numU]
theorem u8_at {W : World} {A : Option Addr} {n : Nat} {ys : List Int} (h : kb.C W A n ys) (j : Nat) (hj : j < n) : ∃ ad : Addr, A = some ad ∧ W.cell? (ad.add j) = some (.int .u8 (ys.getD j 0)) := by
  obtain ⟨ad, c, e, _, hK, hc0⟩ := Kd.C_get h (0 : Int) (j : Int) (by omega) (by omega)
  have hc : ∀ k u, c[k]? = some u → W.cell? (ad.add (((j : Int).toNat) * 1 + k)) = some u := hc0
  obtain rfl : c = _ := hK
  have := hc 0 _ rfl
  refine ⟨ad, e, ?_⟩
  simpa using this
theorem number_ok (g : Nat) (xs : List Int) (w0 w : World) (hI : Rdr w0 w g xs) (hB : Below w0.heap.size w0 w) (hl : 8 ≤ xs.length) :
    Calls Tryd.prog 39 #[.pointer (some ⟨g, 0, none⟩)] w fun en w' => en = .returned (.int .u64 (numU (xs.take 8))) ∧ Rdr w0 w' g (xs.drop 8) ∧ Below w0.heap.size w0 w' ∧ KeepBut w w' g none := by
  have HB := Aside0.mk hB
  have HI := Aside0.mk hI
  have HL := Aside0.mk hl
  obtain ⟨ys, hys⟩ : ∃ ys, xs.take 8 = ys := ⟨_, rfl⟩
  have hyl : ys.length = 8 := by rw [← hys, List.length_take]; omega
  rw [hys]
  have HYL := Aside0.mk hyl
  have HYS := Aside0.mk hys
  clear hI hB hl hyl hys
  go_enter Tryd.func39, Tryd.ntmps39
  go_wp2_with fail
  refine (take_ok g xs 8 w0 _ HI.out HB.out HL.out).mono ?_
  rintro en w1 ⟨A, c, rfl, hc, hC, hR, hB1, hK⟩
  have HC := Aside0.mk hC
  have HR := Aside0.mk hR
  have HB1 := Aside0.mk hB1
  have HK := Aside0.mk hK
  have Hc := Aside0.mk hc
  clear hC hR hB1 hK hc
  go_wp2_with fail
  rw [HYS.out] at HC
  go_loop [2, 8] (fun u i => ∃ k : Nat, k ≤ 8 ∧ i = .int .i64 k ∧ u = .int .u64 (numU (ys.take k))) (fun _ i => 8 - (intOf i).toNat)
  case atStart => exact ⟨0, Nat.zero_le _, rfl, rfl⟩
  case round =>
    obtain ⟨k, hk, rfl, rfl⟩ := hrel
    by_cases hlt : k < 8
    · obtain ⟨ad, rfl, hcell⟩ := u8_at HC.out k hlt
      have hcell := (HB1.out.cell (World.block_lt_of_cell? w0 _ hcell)).trans hcell
      have hs := numU_snoc (ys.take k) (ys.getD k 0)
      have ht : ys.take (k + 1) = ys.take k ++ [ys.getD k 0] := by
        have := HYL.out
        rw [List.take_succ_eq_append_getElem (by omega), List.getD_eq_getElem?_getD, List.getElem?_eq_getElem (by omega)]
        rfl
      rw [← ht] at hs
      have HS := Aside0.mk hs
      clear hs ht
      go_wp2
      all_goals
        go_round
        case rel => exact ⟨k + 1, by omega, by go_num, by rw [HS.out]; rfl⟩
        case measure => simp [intOf]; omega
    · obtain rfl : k = 8 := by omega
      have cq : decide (((8 : Nat) : Int) < 8) = false := by decide
      go_wp2
      go_ret
      refine ⟨?_, HR.out, HB1.out, HK.out⟩
      have e8 : ys.take 8 = ys := List.take_of_length_le (by have := HYL.out; omega)
      (try rw [e8])
      rfl
theorem number_no (g : Nat) (xs : List Int) (w0 w : World) (hI : Rdr w0 w g xs) (hB : Below w0.heap.size w0 w) (hl : xs.length < 8) :
    Calls Tryd.prog 39 #[.pointer (some ⟨g, 0, none⟩)] w fun en w' => en = .panicked (trb 3) ∧ w = w' := by
  have HB := Aside0.mk hB
  have HI := Aside0.mk hI
  have HL := Aside0.mk hl
  clear hI hB hl
  go_enter Tryd.func39, Tryd.ntmps39
  go_wp2_with fail
  refine (take_no g xs 8 w0 _ HI.out HB.out HL.out).mono ?_
  rintro en w1 ⟨rfl, rfl⟩
  exact ⟨rfl, rfl, rfl⟩
end Go.Proofs.YthoemenchimggaaDoor
