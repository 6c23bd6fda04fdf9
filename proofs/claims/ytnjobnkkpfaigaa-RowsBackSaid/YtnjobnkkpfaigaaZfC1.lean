import Derived.Test.YtnjobnkkpfaigaaZfAx0
import Derived.Lib.Hide
import Derived.LoopTactic
import Derived.Outline
/- Package rows' cutter: the walks. -/
namespace Go.Proofs.Ytnjobnkkpfaigaa
open Go.RowKit Go.Proofs.YtnjobnkkpfaigaaW.PrintWords Go.Proofs.YtnjobnkkpfaigaaW.PrintLast Go.Proofs.YtnjobnkkpfaigaaW.PrintMore A
set_option linter.unusedVariables false
set_option linter.unusedSimpArgs false
abbrev u8 : Kd Int := Kd.int .u8
/-- The cutter's two variables: what is left of the bytes, and the error. -/
def Cut (w0 W : World) (g : Nat) (xs : List Int) (err : Int) : Prop :=
  ∃ A0 c0, xs.length ≤ c0 ∧ W.heap[g]? = some (.cells #[.slice A0 xs.length c0, .int .i64 err] 56 (0, 0)) ∧ w0.heap.size ≤ g ∧ u8.C w0 A0 xs.length xs
theorem Cut.step {w0 W W1 : World} {g : Nat} {xs : List Int} {err : Int} (h : Cut w0 W g xs err) (hb : Below W.heap.size W W1) : Cut w0 W1 g xs err := by
  obtain ⟨A0, c0, h1, h2, h3, h4⟩ := h
  exact ⟨A0, c0, h1, (hb.block g (blk_lt h2)).trans h2, h3, h4⟩
theorem Cut.lt {w0 W : World} {g : Nat} {xs : List Int} {err : Int} (h : Cut w0 W g xs err) : g < W.heap.size := by
  obtain ⟨A0, c0, h1, h2, h3, h4⟩ := h
  exact blk_lt h2
def failE (err e : Int) : Int := if err = 0 then e else err
theorem fail_calls (g : Nat) (xs : List Int) (err e : Int) (w0 w : World) (hI : Cut w0 w g xs err) (hB : Below w0.heap.size w0 w) :
    Calls Try.prog 23 #[.pointer (some ⟨g, 0, none⟩), .int .i64 e] w fun en w' => en = .returned (.tuple #[]) ∧ Cut w0 w' g xs (failE err e) ∧ Below w0.heap.size w0 w' ∧ KeepBut w w' g none := by
  obtain ⟨A0, c0, h1, h2, h3, h4⟩ := hI
  have k0 : w.cell? ⟨g, 0, none⟩ = some (.slice A0 xs.length c0) := (blk_cell h2 0).trans rfl
  have k1 : w.cell? ⟨g, 1, none⟩ = some (.int .i64 err) := (blk_cell h2 1).trans rfl
  have f1 := blk_frozen h2 1
  cases c : (err == 0)
  · have e1 : failE err e = err := by unfold failE; rw [if_neg (by simpa using c)]
    rw [e1]
    have H2 := Aside0.mk h2
    clear h2
    go_enter Try.func23, Try.ntmps23
    go_wp2
    first | go_end0 | ((try simp only [Exit.inBlock, Exit.then]); refine bodyPost_ret (results_none rfl _ _ _) rfl ?_)
    exact ⟨rfl, ⟨A0, c0, h1, H2.out, h3, h4⟩, hB, KeepBut.refl _ _ _⟩
  · have e1 : failE err e = e := by unfold failE; rw [if_pos (by simpa using c)]
    rw [e1]
    have H2 := Aside0.mk h2
    clear h2
    go_enter Try.func23, Try.ntmps23
    go_wp2
    first | go_end0 | ((try simp only [Exit.inBlock, Exit.then]); refine bodyPost_ret (results_none rfl _ _ _) rfl ?_)
    exact ⟨rfl, ⟨A0, c0, h1, by simpa using blk_set H2.out 1 (.int .i64 e), h3, h4⟩, below_set hB h3, (KeepBut.refl _ _ _).set_ _ _⟩
def takeY (xs : List Int) (err n : Int) : List Int := if (xs.length : Int) < n ∨ err ≠ 0 then List.replicate n.toNat 0 else xs.take n.toNat
def takeX (xs : List Int) (err n : Int) : List Int := if (xs.length : Int) < n ∨ err ≠ 0 then xs else xs.drop n.toNat
def takeE (xs : List Int) (err n : Int) : Int := if (xs.length : Int) < n ∨ err ≠ 0 then failE err 3 else err
/-- What lay below the start and what lies behind the call stays. -/
def Stays (w0 w W W' : World) : Prop := W.heap.size ≤ W'.heap.size ∧ ∀ k, k < W.heap.size → (k < w0.heap.size ∨ w.heap.size ≤ k) → W'.heap[k]? = W.heap[k]?
theorem Stays.of_keep {w0 w W W' : World} {g : Nat} (h : KeepBut W W' g none) (h0 : w0.heap.size ≤ g) (h1 : g < w.heap.size) : Stays w0 w W W' :=
  ⟨h.1, fun k hk ho => h.2 k hk (by omega) (by simp)⟩
theorem Stays.low {w0 w W W' : World} {A : Option Addr} {n : Nat} {xs : List Int} (h : Stays w0 w W W') (hb : Below w0.heap.size w0 W) (hc : u8.C w0 A n xs) : u8.C W' A n xs :=
  (Kd.heap_int .u8).C (fun k hk => (h.2 k (Nat.lt_of_lt_of_le hk hb.size) (.inl hk)).trans (hb.block k hk)) hc
def TakePost (w0 w : World) (g : Nat) (xs : List Int) (err n : Int) (en : Ending) (w' : World) : Prop :=
  ∃ A c, en = .returned (.slice A n.toNat c) ∧ n.toNat ≤ c ∧ (∀ W', Stays w0 w w' W' → u8.C W' A n.toNat (takeY xs err n)) ∧ Cut w0 w' g (takeX xs err n) (takeE xs err n) ∧ Below w0.heap.size w0 w' ∧ KeepBut w w' g none
theorem take_ok (g : Nat) (xs : List Int) (n : Int) (w0 w : World) (hI : Cut w0 w g xs 0) (hB : Below w0.heap.size w0 w) (hn : 0 ≤ n) (hl : n ≤ (xs.length : Int)) :
    Calls Try.prog 22 #[.pointer (some ⟨g, 0, none⟩), .int .i64 n] w (TakePost w0 w g xs 0 n) := by
  have c0' : ¬ ((xs.length : Int) < n ∨ (0 : Int) ≠ 0) := by omega
  unfold TakePost takeY takeX takeE
  rw [if_neg c0', if_neg c0', if_neg c0']
  obtain ⟨A0, c0, h1, h2, h3, h4⟩ := hI
  have k0 : w.cell? ⟨g, 0, none⟩ = some (.slice A0 xs.length c0) := (blk_cell h2 0).trans rfl
  have k1 : w.cell? ⟨g, 1, none⟩ = some (.int .i64 0) := (blk_cell h2 1).trans rfl
  have f0 := blk_frozen h2 0
  have f1 := blk_frozen h2 1
  have H2 := Aside0.mk h2
  clear h2
  have c1 : decide ((xs.length : Int) < n) = false := decide_eq_false (by omega)
  go_enter Try.func22, Try.ntmps22
  go_wp2
  all_goals
    refine bodyPost_ret (results_tmp rfl _ _ _) rfl ?_
    refine ⟨A0, _, rfl, by omega, ?_, ?_, below_set hB h3, (KeepBut.refl _ _ _).set_ _ _⟩
    · have h5 : u8.C w0 A0 n.toNat (xs.take n.toNat) := by
        have := Kd.C_take (k := u8) h4 (m := n.toNat) (by omega)
        rwa [List.length_take, Nat.min_eq_left (by omega)] at this
      exact fun W' hk => hk.low (below_set hB h3) h5
    · have h6 := Kd.C_drop (k := u8) h4 (m := n.toNat) (by omega) h1
      refine ⟨_, c0 - n.toNat, ?_, ?_, h3, h6⟩
      · rw [List.length_drop]; omega
      · rw [show u8.sz = 1 from rfl, Nat.mul_one, List.length_drop]
        simpa [h] using blk_set H2.out 0 _
theorem info5' : (Try.prog.info? 5).map (fun i => (i.zero, i.size, i.bytes)) = some (some (.int .u8 0), 1, 1) := by kernel_rfl
theorem made_at (n j : Nat) (h : j < n) : (madeCells #[.int .u8 0] n)[j]? = some (.int .u8 0) := by
  simp [madeCells, h, Nat.mod_one]
theorem made_C (w0 u w W' : World) (n : Nat) (hm : n ≤ 140737488351232) (hu : u.heap.size ≤ w.heap.size) (hk : Stays w0 u (w.alloc (.cells (madeCells #[.int .u8 0] n) 5)) W') :
    u8.C W' (some ⟨w.heap.size, 0, none⟩) n (List.replicate n 0) := by
  refine Kd.C_of_reads (enc := Value.int .u8) (d := (0 : Int)) (h1 := fun _ => rfl) ⟨by simp, by omega, fun hn => ⟨_, rfl, fun j hj => ?_⟩⟩
  have hb : (w.alloc (.cells (madeCells #[.int .u8 0] n) 5)).heap[w.heap.size]? = some (.cells (madeCells #[.int .u8 0] n) 5 (0, 0)) := heap_alloc_new w _
  have hb' := (hk.2 w.heap.size (by simp) (.inr hu)).trans hb
  have := blk_cell hb' j
  rw [made_at n j hj] at this
  have e : (List.replicate n (0 : Int)).getD j 0 = 0 := by simp [List.getD, hj]
  rw [e]
  by_cases h0 : j = 0
  · subst h0; simpa [Addr.add] using this
  · simpa [Addr.add, h0] using this
theorem take_no (g : Nat) (xs : List Int) (err n : Int) (w0 w : World) (hI : Cut w0 w g xs err) (hB : Below w0.heap.size w0 w) (hn : 0 ≤ n) (hm : n ≤ 140737488351232) (hl : (xs.length : Int) < n ∨ err ≠ 0) :
    Calls Try.prog 22 #[.pointer (some ⟨g, 0, none⟩), .int .i64 n] w (TakePost w0 w g xs err n) := by
  unfold TakePost takeY takeX takeE
  rw [if_pos hl, if_pos hl, if_pos hl]
  have hI' := hI
  obtain ⟨A0, c0, h1, h2, h3, h4⟩ := hI
  have k0 : w.cell? ⟨g, 0, none⟩ = some (.slice A0 xs.length c0) := (blk_cell h2 0).trans rfl
  have k1 : w.cell? ⟨g, 1, none⟩ = some (.int .i64 err) := (blk_cell h2 1).trans rfl
  have H2 := Aside0.mk h2
  clear h2
  have hmk := print_make_int (P := Try.prog) 27 5 (.int .u8 0) 1 Try.underlying27 info5' rfl (by omega) n hn (by omega)
  by_cases d : (xs.length : Int) < n
  · have c1 : decide ((xs.length : Int) < n) = true := decide_eq_true d
    clear d hl
    go_enter Try.func22, Try.ntmps22
    go_wp2_with (go_at_call 23; (with_reducible refine (fail_calls g xs err 3 w0 _ hI' hB).mono ?_); rintro en w1 ⟨rfl, hC, hB1, hK⟩)
    refine bodyPost_ret (results_tmp rfl _ _ _) rfl ?_
    exact ⟨_, _, rfl, Nat.le_refl _, fun W' hk' => made_C w0 w w1 W' n.toNat (by omega) (by have := hK.1; simpa using this) hk', hC.step (below_alloc (Below.refl _ _) _), below_alloc hB1 _, keep_alloc hK _⟩
  · have c1 : decide ((xs.length : Int) < n) = false := decide_eq_false d
    have c2 : (err != 0) = true := by
      rcases hl with h | h
      · exact absurd h d
      · simpa using h
    clear d hl
    go_enter Try.func22, Try.ntmps22
    go_wp2_with (go_at_call 23; (with_reducible refine (fail_calls g xs err 3 w0 _ hI' hB).mono ?_); rintro en w1 ⟨rfl, hC, hB1, hK⟩)
    refine bodyPost_ret (results_tmp rfl _ _ _) rfl ?_
    exact ⟨_, _, rfl, Nat.le_refl _, fun W' hk' => made_C w0 w w1 W' n.toNat (by omega) (by have := hK.1; simpa using this) hk', hC.step (below_alloc (Below.refl _ _) _), below_alloc hB1 _, keep_alloc hK _⟩
/-- The next bytes; noughts, if they aren't there. -/
theorem take_calls (g : Nat) (xs : List Int) (err n : Int) (w0 w : World) (hI : Cut w0 w g xs err) (hB : Below w0.heap.size w0 w) (hn : 0 ≤ n) (hm : n ≤ 140737488351232) :
    Calls Try.prog 22 #[.pointer (some ⟨g, 0, none⟩), .int .i64 n] w (TakePost w0 w g xs err n) := by
  by_cases h : (xs.length : Int) < n ∨ err ≠ 0
  · exact take_no g xs err n w0 w hI hB hn hm h
  · obtain rfl : err = 0 := by omega
    exact take_ok g xs n w0 w hI hB hn (by omega)
end Go.Proofs.Ytnjobnkkpfaigaa
