import Derived.Test.YtnjobnkkpfaigaaZfC2
import Derived.Test.YtnjobnkkpfaigaaZfX1
/- Package rows' cutter: a value. -/
namespace Go.Proofs.Ytnjobnkkpfaigaa
open Go.RowKit Go.Shelf Go.Proofs.YtnjobnkkpfaigaaW.PrintWords Go.Proofs.YtnjobnkkpfaigaaW.PrintLast Go.Proofs.YtnjobnkkpfaigaaW.PrintMore A Fl
set_option linter.unusedVariables false
set_option linter.unusedSimpArgs false
def ValPost (w0 w : World) (g : Nat) (t n : Int) (s : ByteArray) (xs : List Int) (err : Int) (en : Ending) (w' : World) : Prop :=
  en = .returned (.agg #[.int .i64 t, .int .i64 n, .string s]) ∧ Cut w0 w' g xs err ∧ Below w0.heap.size w0 w' ∧ KeepBut w w' g none
abbrev fresh43 (w : World) (t n : Int) (s : ByteArray) : World := w.alloc (.cells #[.int .i64 t, .int .i64 n, .string s] 43)
theorem bk1 (w : World) (t n : Int) (s : ByteArray) : (fresh43 w t n s).heap[w.heap.size]? = some (.cells #[.int .i64 t, .int .i64 n, .string s] 43 (0, 0)) := heap_alloc_new w _
theorem bel1 (w : World) (t n : Int) (s : ByteArray) : Below w.heap.size w (fresh43 w t n s) := below_alloc (Below.refl _ _) _
abbrev put43 (W : World) (gb : Nat) (t n : Int) (s : ByteArray) : World := ((W.setCell ⟨gb, 0, none⟩ (.int .i64 t)).setCell ⟨gb, 1, none⟩ (.int .i64 n)).setCell ⟨gb, 2, none⟩ (.string s)
theorem put_blk {W : World} {gb : Nat} {a b c : Value} (t n : Int) (s : ByteArray) (h : W.heap[gb]? = some (.cells #[a, b, c] 43 (0, 0))) : (put43 W gb t n s).heap[gb]? = some (.cells #[.int .i64 t, .int .i64 n, .string s] 43 (0, 0)) := by
  have h1 := blk_set h 0 (.int .i64 t)
  have h2 := blk_set h1 1 (.int .i64 n)
  have h3 := blk_set h2 2 (.string s)
  simpa using h3
theorem fin43 {w0 w w1 : World} {g gb : Nat} {X : List Int} {E : Int} (t n : Int) (s : ByteArray) (hg : g < gb) (hgb : w.heap.size ≤ gb) (hC : Cut w0 w1 g X E) (hB : Below w0.heap.size w0 w1) (hK : KeepBut w w1 g none) (h0 : w0.heap.size ≤ gb) :
    Cut w0 (put43 w1 gb t n s) g X E ∧ Below w0.heap.size w0 (put43 w1 gb t n s) ∧ KeepBut w (put43 w1 gb t n s) g none := by
  obtain ⟨A0, c0, h1, h2, h3, h4⟩ := hC
  have hne : g ≠ gb := Nat.ne_of_lt hg
  exact ⟨⟨A0, c0, h1, blk_far (blk_far (blk_far h2 (p := ⟨gb, 0, none⟩) hne _) (p := ⟨gb, 1, none⟩) hne _) (p := ⟨gb, 2, none⟩) hne _, h3, h4⟩,
    below_set (below_set (below_set hB h0) h0) h0, keep_far (keep_far (keep_far hK (p := ⟨gb, 0, none⟩) hgb _) (p := ⟨gb, 1, none⟩) hgb _) (p := ⟨gb, 2, none⟩) hgb _⟩
theorem keep1 {w w1 : World} {g : Nat} {t n : Int} {s : ByteArray} (hK : KeepBut (fresh43 w t n s) w1 g none) : KeepBut w w1 g none := (KeepBut.of_below (bel1 w t n s) g none).trans hK (.inl rfl)
theorem results_one {P : Program} {fn : Func} {p : Tmp} {ty : TypeId} (h : fn.results = #[.cell p ty]) (tmps : Array Value) (w : World) (g : Nat) (t : TypeId) (cs : Array Value) (fr : Nat × Nat) (d : TypeDesc)
    (hp : tmps.getD p undef = .pointer (some ⟨g, 0, none⟩)) (hg : w.heap[g]? = some (.cells cs t fr))
    (hu : P.underlying ty = some d) (hd : (match d with | .struct _ | .array _ _ => true | _ => false) = true) (hi : (P.info? ty).map (·.size) = some cs.size) :
    (results fn tmps).run P w = .ok (.agg cs) w := by
  have hp' : tmps[p]?.getD undef = .pointer (some ⟨g, 0, none⟩) := by simpa using hp
  simp [results, h, hp', asAddr, run_loadVar_row w g t ty cs fr d hg hu hd hi]
theorem value_bad (g : Nat) (xs : List Int) (err t : Int) (w0 w : World) (hI : Cut w0 w g xs err) (hB : Below w0.heap.size w0 w) (h1 : t ≠ 1) (h2 : t ≠ 2) (h3 : t ≠ 3) (h4 : t ≠ 4) :
    Calls Try.prog 24 #[.pointer (some ⟨g, 0, none⟩), .int .i64 t] w (ValPost w0 w g t 0 ⟨#[]⟩ xs (failE err 30)) := by
  have c1 : (t == 1) = false := by simpa using h1
  have c2 : (t == 2) = false := by simpa using h2
  have c3 : (t == 3) = false := by simpa using h3
  have c4 : (t == 4) = false := by simpa using h4
  clear h1 h2 h3 h4
  have B1 := Aside0.mk (bk1 w t 0 ⟨#[]⟩)
  have k0 : (fresh43 w 0 0 ⟨#[]⟩).cell? ⟨w.heap.size, 0, none⟩ = some (.int .i64 0) := (blk_cell (bk1 w 0 0 ⟨#[]⟩) 0).trans rfl
  have f0 := blk_frozen (bk1 w 0 0 ⟨#[]⟩) 0
  have hI1 := Aside0.mk (hI.step (bel1 w t 0 ⟨#[]⟩))
  have hB1 := Aside0.mk (hB.trans ((bel1 w t 0 ⟨#[]⟩).mono hB.size))
  go_enter Try.func24, Try.ntmps24
  go_wp2_with (go_at_call 23; (with_reducible refine (fail_calls g xs err 30 w0 _ hI1.out hB1.out).mono ?_); rintro en w1 ⟨rfl, hC, hB2, hK⟩; have B2 := hK.blk B1.out (Nat.ne_of_gt hI.lt) (by simp); have l0 := (blk_cell B2 0).trans rfl; have l1 := (blk_cell B2 1).trans rfl; have l2 := (blk_cell B2 2).trans rfl; have g0 := blk_frozen B2 0; have g1 := blk_frozen B2 1; have g2 := blk_frozen B2 2)
  refine bodyPost_ret (results_one rfl _ _ w.heap.size 43 #[.int .i64 t, .int .i64 0, .string (⟨#[]⟩ : ByteArray)] (0, 0) _ rfl (put_blk t 0 ⟨#[]⟩ B2) Try.underlying43 rfl (by kernel_rfl)) rfl ?_
  obtain ⟨q1, q2, q3⟩ := fin43 t 0 ⟨#[]⟩ hI.lt (Nat.le_refl _) hC hB2 (keep1 hK) hB.size
  exact ⟨rfl, q1, q2, q3⟩
theorem Stays.refl (w0 w W : World) : Stays w0 w W W := ⟨Nat.le_refl _, fun _ _ _ => rfl⟩
theorem byte_at {W : World} {A : Option Addr} {n : Nat} {ys : List Int} (h : u8.C W A n ys) (j : Nat) (hj : j < n) : ∃ ad : Addr, A = some ad ∧ W.cell? (ad.add j) = some (.int .u8 (ys.getD j 0)) := by
  obtain ⟨_, _, hr⟩ := Kd.reads_of_C h
  obtain ⟨ad, e, hc⟩ := hr (by omega)
  exact ⟨ad, e, hc j hj⟩
theorem byte_0 {W : World} {A : Option Addr} {ys : List Int} (h : u8.C W A 1 ys) : ∃ ad : Addr, A = some ad ∧ W.cell? ad = some (.int .u8 (ys.getD 0 0)) := by
  obtain ⟨ad, e, hc⟩ := byte_at h 0 (by omega)
  exact ⟨ad, e, by simpa [Addr.add] using hc⟩
theorem takeY_byte {xs : List Int} (hx : ∀ x ∈ xs, 0 ≤ x ∧ x < 256) (err n : Int) (j : Nat) : 0 ≤ (takeY xs err n).getD j 0 ∧ (takeY xs err n).getD j 0 < 256 := by
  have key : ∀ ys : List Int, (∀ y ∈ ys, 0 ≤ y ∧ y < 256) → 0 ≤ ys.getD j 0 ∧ ys.getD j 0 < 256 := by
    intro ys h
    rw [List.getD_eq_getElem?_getD]
    cases hj : ys[j]? with
    | none => simp
    | some y => exact h y (List.mem_of_getElem? hj)
  apply key
  unfold takeY
  split
  · intro y hy
    obtain ⟨_, rfl⟩ := List.mem_replicate.1 hy
    omega
  · intro y hy
    exact hx y (List.mem_of_mem_take hy)
theorem Cut.far {w0 W : World} {g gb j : Nat} {X : List Int} {E : Int} {u : Value} (h : Cut w0 W g X E) (hg : g < gb) : Cut w0 (W.setCell ⟨gb, j, none⟩ u) g X E := by
  obtain ⟨A0, c0, h1, h2, h3, h4⟩ := h
  exact ⟨A0, c0, h1, blk_far h2 (p := ⟨gb, j, none⟩) (Nat.ne_of_lt hg) _, h3, h4⟩
theorem value_bool (g : Nat) (xs : List Int) (err : Int) (w0 w : World) (hx : ∀ x ∈ xs, 0 ≤ x ∧ x < 256) (hI : Cut w0 w g xs err) (hB : Below w0.heap.size w0 w) :
    Calls Try.prog 24 #[.pointer (some ⟨g, 0, none⟩), .int .i64 1] w (ValPost w0 w g 1 ((takeY xs err 1).getD 0 0) ⟨#[]⟩ (takeX xs err 1) (if (takeY xs err 1).getD 0 0 > 1 then failE (takeE xs err 1) 2 else takeE xs err 1)) := by
  have hyb := takeY_byte hx err 1 0
  have B1 := Aside0.mk (bk1 w 1 0 ⟨#[]⟩)
  have k0 : (fresh43 w 0 0 ⟨#[]⟩).cell? ⟨w.heap.size, 0, none⟩ = some (.int .i64 0) := (blk_cell (bk1 w 0 0 ⟨#[]⟩) 0).trans rfl
  have f0 := blk_frozen (bk1 w 0 0 ⟨#[]⟩) 0
  have hI1 := Aside0.mk (hI.step (bel1 w 1 0 ⟨#[]⟩))
  have hB1 := Aside0.mk (hB.trans ((bel1 w 1 0 ⟨#[]⟩).mono hB.size))
  have T := take_calls g xs err 1 w0 (fresh43 w 1 0 ⟨#[]⟩) hI1.out hB1.out (by decide) (by decide)
  unfold TakePost at T
  obtain ⟨y0, hy0⟩ : ∃ y0, (takeY xs err 1).getD 0 0 = y0 := ⟨_, rfl⟩
  obtain ⟨X, hX⟩ : ∃ X, takeX xs err 1 = X := ⟨_, rfl⟩
  obtain ⟨E, hE⟩ : ∃ E, takeE xs err 1 = E := ⟨_, rfl⟩
  rw [hX, hE] at T
  rw [hX, hE, hy0]
  rw [hy0] at hyb
  obtain ⟨Y, hY⟩ : ∃ Y, takeY xs err 1 = Y := ⟨_, rfl⟩
  rw [hY] at T hy0
  have HY := Aside0.mk hy0
  have T' := Aside0.mk T
  have hw : Go.RowKit.wrap64 y0 = y0 := IntWalk.wrap64_in y0 (by omega)
  have HL := Aside0.mk hI.lt
  have H0 := Aside0.mk hB.size
  clear hX hE hY hx hy0 T hI hB
  by_cases hgt : y0 > 1
  · rw [if_pos hgt]
    have c1 : decide (y0 > 1) = true := decide_eq_true hgt
    clear hgt
    go_enter Try.func24, Try.ntmps24
    go_wp2_with fail
    all_goals
      refine T'.out.mono ?_
      rintro en w1 ⟨A, c, rfl, hc1, hR, hC, hB2, hK⟩
      obtain ⟨ad, rfl, hcell⟩ := byte_0 (hR w1 (Stays.refl _ _ _))
      rw [HY.out] at hcell
      have B2 := Aside0.mk (hK.blk B1.out (Nat.ne_of_gt HL.out) (by simp))
      have l1 : w1.cell? ⟨w.heap.size, 1, none⟩ = some (.int .i64 0) := (blk_cell B2.out 1).trans rfl
      have g1 := blk_frozen B2.out 1
      have HC := Aside0.mk (hC.far (j := 1) (u := .int .i64 y0) HL.out)
      have HB := Aside0.mk (below_set (j := 1) (v := .int .i64 y0) hB2 H0.out)
      have HK := Aside0.mk (keep_far (keep1 hK) (p := ⟨w.heap.size, 1, none⟩) (Nat.le_refl _) (.int .i64 y0))
      have B3' := blk_set B2.out 1 (.int .i64 y0)
      have B3 : (w1.setCell ⟨w.heap.size, 1, none⟩ (.int .i64 y0)).heap[w.heap.size]? = some (.cells #[.int .i64 1, .int .i64 y0, .string (⟨#[]⟩ : ByteArray)] 43 (0, 0)) := by simpa using B3'
      have B3 := Aside0.mk B3
      clear hR hC hB2 hK B3'
      go_wp2_with fail
      refine (fail_calls g X E 2 w0 _ HC.out HB.out).mono ?_
      rintro en w2 ⟨rfl, hC, hB2, hK⟩
      have B4 := hK.blk B3.out (Nat.ne_of_gt HL.out) (by simp)
      have l0 : w2.cell? ⟨w.heap.size, 0, none⟩ = some (.int .i64 1) := (blk_cell B4 0).trans rfl
      have l1' : w2.cell? ⟨w.heap.size, 1, none⟩ = some (.int .i64 y0) := (blk_cell B4 1).trans rfl
      have l2 : w2.cell? ⟨w.heap.size, 2, none⟩ = some (.string (⟨#[]⟩ : ByteArray)) := (blk_cell B4 2).trans rfl
      have g0 := blk_frozen B4 0
      have g1' := blk_frozen B4 1
      have g2 := blk_frozen B4 2
      have HK2 := Aside0.mk (HK.out.trans hK (.inl rfl))
      have HC2 := Aside0.mk hC
      have HB2 := Aside0.mk hB2
      have B4 := Aside0.mk B4
      clear hC hB2 hK
      go_wp2_with fail
      refine bodyPost_ret (results_one rfl _ _ w.heap.size 43 #[.int .i64 1, .int .i64 y0, .string (⟨#[]⟩ : ByteArray)] (0, 0) _ rfl (put_blk 1 y0 ⟨#[]⟩ B4.out) Try.underlying43 rfl (by kernel_rfl)) rfl ?_
      obtain ⟨q1, q2, q3⟩ := fin43 1 y0 ⟨#[]⟩ HL.out (Nat.le_refl _) HC2.out HB2.out HK2.out H0.out
      exact ⟨rfl, q1, q2, q3⟩
  · rw [if_neg hgt]
    have c1 : decide (y0 > 1) = false := decide_eq_false hgt
    clear hgt
    go_enter Try.func24, Try.ntmps24
    go_wp2_with fail
    all_goals
      refine T'.out.mono ?_
      rintro en w1 ⟨A, c, rfl, hc1, hR, hC, hB2, hK⟩
      obtain ⟨ad, rfl, hcell⟩ := byte_0 (hR w1 (Stays.refl _ _ _))
      rw [HY.out] at hcell
      have B2 := Aside0.mk (hK.blk B1.out (Nat.ne_of_gt HL.out) (by simp))
      have l1 : w1.cell? ⟨w.heap.size, 1, none⟩ = some (.int .i64 0) := (blk_cell B2.out 1).trans rfl
      have g1 := blk_frozen B2.out 1
      have l0 : (w1.setCell ⟨w.heap.size, 1, none⟩ (.int .i64 y0)).cell? ⟨w.heap.size, 0, none⟩ = some (.int .i64 1) := (blk_cell (blk_set B2.out 1 (.int .i64 y0)) 0).trans rfl
      have l2 : (w1.setCell ⟨w.heap.size, 1, none⟩ (.int .i64 y0)).cell? ⟨w.heap.size, 2, none⟩ = some (.string (⟨#[]⟩ : ByteArray)) := (blk_cell (blk_set B2.out 1 (.int .i64 y0)) 2).trans rfl
      have g0 := blk_frozen B2.out 0
      have g2 := blk_frozen B2.out 2
      have HC := Aside0.mk (hC.far (j := 1) (u := .int .i64 y0) HL.out)
      have HB := Aside0.mk (below_set (j := 1) (v := .int .i64 y0) hB2 H0.out)
      have HK := Aside0.mk (keep_far (keep1 hK) (p := ⟨w.heap.size, 1, none⟩) (Nat.le_refl _) (.int .i64 y0))
      have B3' := blk_set B2.out 1 (.int .i64 y0)
      have B3 : (w1.setCell ⟨w.heap.size, 1, none⟩ (.int .i64 y0)).heap[w.heap.size]? = some (.cells #[.int .i64 1, .int .i64 y0, .string (⟨#[]⟩ : ByteArray)] 43 (0, 0)) := by simpa using B3'
      have B3 := Aside0.mk B3
      clear hR hC hB2 hK B3'
      go_wp2_with fail
      refine bodyPost_ret (results_one rfl _ _ w.heap.size 43 #[.int .i64 1, .int .i64 y0, .string (⟨#[]⟩ : ByteArray)] (0, 0) _ rfl (put_blk 1 y0 ⟨#[]⟩ B3.out) Try.underlying43 rfl (by kernel_rfl)) rfl ?_
      obtain ⟨q1, q2, q3⟩ := fin43 1 y0 ⟨#[]⟩ HL.out (Nat.le_refl _) HC.out HB.out HK.out H0.out
      exact ⟨rfl, q1, q2, q3⟩
theorem takeY_length (xs : List Int) (err n : Int) : (takeY xs err n).length = n.toNat := by
  unfold takeY
  split
  · simp
  · rename_i h
    rw [List.length_take]
    omega
/-- The string of what is taken. -/
theorem taken_str {W : World} {A : Option Addr} {c n : Nat} {ys : List Int} (hl : ys.length = n) (h : u8.C W A n ys) : (Sem.run Try.prog (convert 27 9 (.slice A n c)) W) = .ok (.string (strOfNums ys)) W := by
  subst hl
  exact Kd.C_string (P := Try.prog) (A := A) (c := c) Try.underlying27 Try.underlying5 Try.underlying9 h
def textE (xs : List Int) (err : Int) : Int := if (takeY xs err 1).getD 0 0 > 200 then failE (takeE xs err 1) 1 else takeE xs err 1
theorem value_text (g : Nat) (xs : List Int) (err : Int) (w0 w : World) (hx : ∀ x ∈ xs, 0 ≤ x ∧ x < 256) (hI : Cut w0 w g xs err) (hB : Below w0.heap.size w0 w) :
    Calls Try.prog 24 #[.pointer (some ⟨g, 0, none⟩), .int .i64 4] w (ValPost w0 w g 4 0 (strOfNums (takeY (takeX xs err 1) (textE xs err) ((takeY xs err 1).getD 0 0))) (takeX (takeX xs err 1) (textE xs err) ((takeY xs err 1).getD 0 0)) (takeE (takeX xs err 1) (textE xs err) ((takeY xs err 1).getD 0 0))) := by
  unfold textE
  have hyb := takeY_byte hx err 1 0
  have B1 := Aside0.mk (bk1 w 4 0 ⟨#[]⟩)
  have k0 : (fresh43 w 0 0 ⟨#[]⟩).cell? ⟨w.heap.size, 0, none⟩ = some (.int .i64 0) := (blk_cell (bk1 w 0 0 ⟨#[]⟩) 0).trans rfl
  have f0 := blk_frozen (bk1 w 0 0 ⟨#[]⟩) 0
  have hI1 := Aside0.mk (hI.step (bel1 w 4 0 ⟨#[]⟩))
  have hB1 := Aside0.mk (hB.trans ((bel1 w 4 0 ⟨#[]⟩).mono hB.size))
  have T := take_calls g xs err 1 w0 (fresh43 w 4 0 ⟨#[]⟩) hI1.out hB1.out (by decide) (by decide)
  unfold TakePost at T
  obtain ⟨y0, hy0⟩ : ∃ y0, (takeY xs err 1).getD 0 0 = y0 := ⟨_, rfl⟩
  obtain ⟨X, hX⟩ : ∃ X, takeX xs err 1 = X := ⟨_, rfl⟩
  obtain ⟨E, hE⟩ : ∃ E, takeE xs err 1 = E := ⟨_, rfl⟩
  rw [hX, hE] at T
  rw [hX, hE, hy0]
  rw [hy0] at hyb
  obtain ⟨Y, hY⟩ : ∃ Y, takeY xs err 1 = Y := ⟨_, rfl⟩
  rw [hY] at T hy0
  have HY := Aside0.mk hy0
  have T' := Aside0.mk T
  have hw : Go.RowKit.wrap64 y0 = y0 := IntWalk.wrap64_in y0 (by omega)
  have HL := Aside0.mk hI.lt
  have H0 := Aside0.mk hB.size
  clear hX hE hY hx hy0 T hI hB
  by_cases hgt : y0 > 200
  · rw [if_pos hgt]
    have c1 : decide (y0 > 200) = true := decide_eq_true hgt
    clear hgt
    obtain ⟨E2, hE2⟩ : ∃ E2, failE E 1 = E2 := ⟨_, rfl⟩
    rw [hE2]
    have HE2 := Aside0.mk hE2
    clear hE2
    obtain ⟨S, hS⟩ : ∃ S, strOfNums (takeY X E2 y0) = S := ⟨_, rfl⟩
    obtain ⟨X3, hX3⟩ : ∃ X3, takeX X E2 y0 = X3 := ⟨_, rfl⟩
    obtain ⟨E3, hE3⟩ : ∃ E3, takeE X E2 y0 = E3 := ⟨_, rfl⟩
    rw [hS, hX3, hE3]
    have HS := Aside0.mk hS
    have HX3 := Aside0.mk hX3
    have HE3 := Aside0.mk hE3
    clear hS hX3 hE3
    have HN := Aside0.mk hyb
    go_enter Try.func24, Try.ntmps24
    go_wp2_with fail
    all_goals
      refine T'.out.mono ?_
      rintro en w1 ⟨A, c, rfl, hc1, hR, hC, hB2, hK⟩
      obtain ⟨ad, rfl, hcell⟩ := byte_0 (hR w1 (Stays.refl _ _ _))
      rw [HY.out] at hcell
      have B2 := Aside0.mk (hK.blk B1.out (Nat.ne_of_gt HL.out) (by simp))
      have HC := Aside0.mk hC
      have HB := Aside0.mk hB2
      have HK := Aside0.mk (keep1 hK)
      clear hR hC hB2 hK
      go_wp2_with fail
      refine (fail_calls g X E 1 w0 _ HC.out HB.out).mono ?_
      rintro en w2 ⟨rfl, hC, hB2, hK⟩
      rw [HE2.out] at hC
      have B3 := Aside0.mk (hK.blk B2.out (Nat.ne_of_gt HL.out) (by simp))
      have HK2 := Aside0.mk (HK.out.trans hK (.inl rfl))
      have HC2 := Aside0.mk hC
      have HB2 := Aside0.mk hB2
      clear hC hB2 hK
      go_wp2_with fail
      refine (take_calls g X E2 y0 w0 _ HC2.out HB2.out HN.out.1 (by have := HN.out.2; omega)).mono ?_
      rintro en w3 ⟨A3, c3, rfl, hc3, hR, hC, hB2, hK⟩
      rw [HX3.out, HE3.out] at hC
      have hstr := taken_str (c := c3) (takeY_length X E2 y0) (hR w3 (Stays.refl _ _ _))
      rw [HS.out] at hstr
      have B4 := hK.blk B3.out (Nat.ne_of_gt HL.out) (by simp)
      have HK3 := Aside0.mk (keep_far (HK2.out.trans hK (.inl rfl)) (p := ⟨w.heap.size, 2, none⟩) (Nat.le_refl _) (.string S))
      have l2 : w3.cell? ⟨w.heap.size, 2, none⟩ = some (.string (⟨#[]⟩ : ByteArray)) := (blk_cell B4 2).trans rfl
      have g2 := blk_frozen B4 2
      have l0 : (w3.setCell ⟨w.heap.size, 2, none⟩ (.string S)).cell? ⟨w.heap.size, 0, none⟩ = some (.int .i64 4) := (blk_cell (blk_set B4 2 (.string S)) 0).trans rfl
      have l1 : (w3.setCell ⟨w.heap.size, 2, none⟩ (.string S)).cell? ⟨w.heap.size, 1, none⟩ = some (.int .i64 0) := (blk_cell (blk_set B4 2 (.string S)) 1).trans rfl
      have g0 := blk_frozen B4 0
      have g1 := blk_frozen B4 1
      have HC3 := Aside0.mk (hC.far (j := 2) (u := .string S) HL.out)
      have HB3 := Aside0.mk (below_set (j := 2) (v := .string S) hB2 H0.out)
      have B5' := blk_set B4 2 (.string S)
      have B5 : (w3.setCell ⟨w.heap.size, 2, none⟩ (.string S)).heap[w.heap.size]? = some (.cells #[.int .i64 4, .int .i64 0, .string S] 43 (0, 0)) := by simpa using B5'
      have B5 := Aside0.mk B5
      clear hR hC hB2 hK B5' B4
      go_wp2_with fail
      refine bodyPost_ret (results_one rfl _ _ w.heap.size 43 #[.int .i64 4, .int .i64 0, .string S] (0, 0) _ rfl (put_blk 4 0 S B5.out) Try.underlying43 rfl (by kernel_rfl)) rfl ?_
      obtain ⟨q1, q2, q3⟩ := fin43 4 0 S HL.out (Nat.le_refl _) HC3.out HB3.out HK3.out H0.out
      exact ⟨rfl, q1, q2, q3⟩
  · rw [if_neg hgt]
    have c1 : decide (y0 > 200) = false := decide_eq_false hgt
    clear hgt
    obtain ⟨S, hS⟩ : ∃ S, strOfNums (takeY X E y0) = S := ⟨_, rfl⟩
    obtain ⟨X3, hX3⟩ : ∃ X3, takeX X E y0 = X3 := ⟨_, rfl⟩
    obtain ⟨E3, hE3⟩ : ∃ E3, takeE X E y0 = E3 := ⟨_, rfl⟩
    rw [hS, hX3, hE3]
    have HS := Aside0.mk hS
    have HX3 := Aside0.mk hX3
    have HE3 := Aside0.mk hE3
    clear hS hX3 hE3
    have HN := Aside0.mk hyb
    go_enter Try.func24, Try.ntmps24
    go_wp2_with fail
    all_goals
      refine T'.out.mono ?_
      rintro en w1 ⟨A, c, rfl, hc1, hR, hC, hB2, hK⟩
      obtain ⟨ad, rfl, hcell⟩ := byte_0 (hR w1 (Stays.refl _ _ _))
      rw [HY.out] at hcell
      have B3 := Aside0.mk (hK.blk B1.out (Nat.ne_of_gt HL.out) (by simp))
      have HC2 := Aside0.mk hC
      have HB2 := Aside0.mk hB2
      have HK2 := Aside0.mk (keep1 hK)
      clear hR hC hB2 hK
      go_wp2_with fail
      refine (take_calls g X E y0 w0 _ HC2.out HB2.out HN.out.1 (by have := HN.out.2; omega)).mono ?_
      rintro en w3 ⟨A3, c3, rfl, hc3, hR, hC, hB2, hK⟩
      rw [HX3.out, HE3.out] at hC
      have hstr := taken_str (c := c3) (takeY_length X E y0) (hR w3 (Stays.refl _ _ _))
      rw [HS.out] at hstr
      have B4 := hK.blk B3.out (Nat.ne_of_gt HL.out) (by simp)
      have HK3 := Aside0.mk (keep_far (HK2.out.trans hK (.inl rfl)) (p := ⟨w.heap.size, 2, none⟩) (Nat.le_refl _) (.string S))
      have l2 : w3.cell? ⟨w.heap.size, 2, none⟩ = some (.string (⟨#[]⟩ : ByteArray)) := (blk_cell B4 2).trans rfl
      have g2 := blk_frozen B4 2
      have l0 : (w3.setCell ⟨w.heap.size, 2, none⟩ (.string S)).cell? ⟨w.heap.size, 0, none⟩ = some (.int .i64 4) := (blk_cell (blk_set B4 2 (.string S)) 0).trans rfl
      have l1 : (w3.setCell ⟨w.heap.size, 2, none⟩ (.string S)).cell? ⟨w.heap.size, 1, none⟩ = some (.int .i64 0) := (blk_cell (blk_set B4 2 (.string S)) 1).trans rfl
      have g0 := blk_frozen B4 0
      have g1 := blk_frozen B4 1
      have HC3 := Aside0.mk (hC.far (j := 2) (u := .string S) HL.out)
      have HB3 := Aside0.mk (below_set (j := 2) (v := .string S) hB2 H0.out)
      have B5' := blk_set B4 2 (.string S)
      have B5 : (w3.setCell ⟨w.heap.size, 2, none⟩ (.string S)).heap[w.heap.size]? = some (.cells #[.int .i64 4, .int .i64 0, .string S] 43 (0, 0)) := by simpa using B5'
      have B5 := Aside0.mk B5
      clear hR hC hB2 hK B5' B4
      go_wp2_with fail
      refine bodyPost_ret (results_one rfl _ _ w.heap.size 43 #[.int .i64 4, .int .i64 0, .string S] (0, 0) _ rfl (put_blk 4 0 S B5.out) Try.underlying43 rfl (by kernel_rfl)) rfl ?_
      obtain ⟨q1, q2, q3⟩ := fin43 4 0 S HL.out (Nat.le_refl _) HC3.out HB3.out HK3.out H0.out
      exact ⟨rfl, q1, q2, q3⟩
end Go.Proofs.Ytnjobnkkpfaigaa
