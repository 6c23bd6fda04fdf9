import Derived.Test.YtnjobnkkpfaigaaZfC3
/- Package rows' cutter: a number. -/
namespace Go.Proofs.Ytnjobnkkpfaigaa
open Go.RowKit Go.Shelf Go.Proofs.YtnjobnkkpfaigaaW.PrintWords Go.Proofs.YtnjobnkkpfaigaaW.PrintLast Go.Proofs.YtnjobnkkpfaigaaW.PrintMore A Fl
attribute [local go_sem] Oper.semAt_some
set_option linter.unusedVariables false
set_option linter.unusedSimpArgs false
theorem byte_lt {W : World} {ad : Addr} {v : Value} (h : W.cell? (ad.add 0) = some v) : ad.block < W.heap.size := by
  rcases Nat.lt_or_ge ad.block W.heap.size with hl | hl
  · exact hl
  · have : W.heap[ad.block]? = none := Array.getElem?_eq_none hl
    simp [World.cell?, Addr.add, this] at h
theorem byte_ne {W : World} {ad : Addr} {gb : Nat} {y t n : Int} {s : ByteArray} (h : W.cell? (ad.add 0) = some (.int .u8 y)) (hb : W.heap[gb]? = some (.cells #[.int .i64 t, .int .i64 n, .string s] 43 (0, 0))) : ad.block ≠ gb := by
  obtain ⟨b, off, sp⟩ := ad
  rintro rfl
  have h' : (if sp.isSome = true then none else (#[Value.int .i64 t, Value.int .i64 n, Value.string s])[off]?) = some (Value.int .u8 y) := by
    simpa [World.cell?, Addr.add, hb] using h
  split at h'
  · cases h'
  · match off, h' with
    | 0, h' => simp at h'
    | 1, h' => simp at h'
    | 2, h' => simp at h'
    | k + 3, h' => simp at h'
def numStep (n x : Int) : Int := bits .or .i64 (Go.RowKit.wrap64 (n * 256)) (Go.RowKit.wrap64 x)
def numOf (pre : List (Int × Int)) : Int := pre.foldl (fun n x => numStep n x.2) 0
theorem numOf_snoc (pre : List (Int × Int)) (x : Int × Int) : numOf (pre ++ [x]) = numStep (numOf pre) x.2 := by simp [numOf]
theorem Bel.set {n g j : Nat} {W : World} {u : Value} : Bel n g W (W.setCell ⟨g, j, none⟩ u) := by
  have h := (KeepBut.refl W g none).set_ j u
  refine ⟨rfl, rfl, rfl, h.1, fun k hk hkg => ?_⟩
  by_cases hl : k < W.heap.size
  · exact h.2 k hl hkg (by simp)
  · rw [Array.getElem?_eq_none (by simp; omega), Array.getElem?_eq_none (by omega)]
theorem bel_own {n₀ g : Nat} {w2 : World} (hn : n₀ ≤ w2.heap.size) : OwnFrom (β := List (Int × Int)) n₀ (fun _ W => Bel n₀ g w2 W) := fun s A B row hs hg hr =>
  Bel.trans hs ⟨hg.os, hg.tape, hg.output, hg.size, fun k hk hkg => by
    exact hg.block k (Nat.lt_of_lt_of_le hk (Nat.le_trans hn hs.2.2.2.1)) (fun e => by have := (hr k e.symm).1; omega)⟩
theorem Bel.below {n g m : Nat} {A B : World} (h : Bel n g A B) (h1 : m ≤ g) (h2 : m ≤ n) : Below m A B := ⟨h.1, h.2.1, h.2.2.1, h.2.2.2.1, fun k hk => h.2.2.2.2 k (Nat.lt_of_lt_of_le hk h2) (by omega)⟩
theorem put_keep (W : World) (gb : Nat) (t n : Int) (s : ByteArray) : KeepBut W (put43 W gb t n s) gb none := (((KeepBut.refl W gb none).set_ 0 _).set_ 1 _).set_ 2 _
/-- The deferred calls' block is closed, the result stays. -/
theorem fin_num {w0 w W : World} {g gb D : Nat} {X : List Int} {E : Int} (t n : Int) (s : ByteArray) (hg : g < gb) (hgb : w.heap.size ≤ gb) (hgD : gb < D) (h0 : w0.heap.size ≤ gb)
    (hC : Cut w0 W g X E) (hB : Below w0.heap.size w0 W) (hK : KeepBut w W g none) (hD : W.heap[D]? = some (.deferred (some []))) {a b c : Value} (hv : W.heap[gb]? = some (.cells #[a, b, c] 43 (0, 0))) :
    (put43 W gb t n s).heap[D]? = some (.deferred (some [])) ∧ ((put43 W gb t n s).putObj D (.deferred none)).heap[gb]? = some (.cells #[.int .i64 t, .int .i64 n, .string s] 43 (0, 0)) ∧
    Cut w0 ((put43 W gb t n s).putObj D (.deferred none)) g X E ∧ Below w0.heap.size w0 ((put43 W gb t n s).putObj D (.deferred none)) ∧ KeepBut w ((put43 W gb t n s).putObj D (.deferred none)) g none := by
  have hD1 : (put43 W gb t n s).heap[D]? = some (.deferred (some [])) := (put_keep W gb t n s).blk hD (Nat.ne_of_gt hgD) (by simp)
  obtain ⟨q1, q2, q3⟩ := fin43 t n s hg hgb hC hB hK h0
  refine ⟨hD1, (World.putObj_heap_other (by omega)).trans (put_blk t n s hv), ?_, q2.trans (belowK_b (w := w0) (Nat.le_refl _) _ D _ _ (by omega) hD1 rfl rfl), ?_⟩
  · obtain ⟨A0, c0, h1, h2, h3, h4⟩ := q1
    exact ⟨A0, c0, h1, (World.putObj_heap_other (by omega)).trans h2, h3, h4⟩
  · exact ⟨by simpa using q3.1, fun i hi hig hr => (World.putObj_heap_other (by omega)).trans (q3.2 i hi hig hr)⟩
theorem Cut.bel {w0 A B : World} {g gb n : Nat} {X : List Int} {E : Int} (h : Cut w0 A g X E) (hb : Bel n gb A B) (hn : A.heap.size ≤ n) (hg : g < gb) : Cut w0 B g X E := by
  have hl := h.lt
  obtain ⟨A0, c0, h1, h2, h3, h4⟩ := h
  exact ⟨A0, c0, h1, (hb.2.2.2.2 g (Nat.lt_of_lt_of_le hl hn) (Nat.ne_of_lt hg)).trans h2, h3, h4⟩
theorem Cut.drawN {w0 A : World} {g : Nat} {X : List Int} {E : Int} (h : Cut w0 A g X E) (m : Nat) : Cut w0 (A.drewN m) g X E := h
theorem keep_gb {w w1 W2 W : World} {g n : Nat} (hK : KeepBut w w1 g none) (hb : Below w1.heap.size w1 W2) (hbel : Bel n w.heap.size W2 W) (hn : W2.heap.size ≤ n) (hgb : w.heap.size < w1.heap.size) : KeepBut w W g none :=
  ⟨Nat.le_trans hK.1 (Nat.le_trans hb.size hbel.2.2.2.1), fun i hi hg hr => (hbel.2.2.2.2 i (by have := hb.size; omega) (by omega)).trans ((hb.block i (by omega)).trans (hK.2 i hi hg hr))⟩
def numN (xs : List Int) (err : Int) : Int := numOf (upto (downAt (takeY xs err 8) 8) 8)
theorem value_num (t : Int) (h1 : (t == 1) = false) (b2 b3 : Bool) (h2 : (t == 2) = b2) (h3 : (t == 3) = b3) (h23 : (b2 != b3) = true) (g : Nat) (xs : List Int) (err : Int) (w0 w : World) (hI : Cut w0 w g xs err) (hB : Below w0.heap.size w0 w) :
    Calls Try.prog 24 #[.pointer (some ⟨g, 0, none⟩), .int .i64 t] w (ValPost w0 w g t (numN xs err) ⟨#[]⟩ (takeX xs err 8) (if (b3 && (numN xs err != canonI (numN xs err))) = true then failE (takeE xs err 8) 2 else takeE xs err 8)) := by
  have B1 := Aside0.mk (bk1 w t 0 ⟨#[]⟩)
  have k0 : (fresh43 w 0 0 ⟨#[]⟩).cell? ⟨w.heap.size, 0, none⟩ = some (.int .i64 0) := (blk_cell (bk1 w 0 0 ⟨#[]⟩) 0).trans rfl
  have f0 := blk_frozen (bk1 w 0 0 ⟨#[]⟩) 0
  have hI1 := Aside0.mk (hI.step (bel1 w t 0 ⟨#[]⟩))
  have hB1 := Aside0.mk (hB.trans ((bel1 w t 0 ⟨#[]⟩).mono hB.size))
  have T := take_calls g xs err 8 w0 (fresh43 w t 0 ⟨#[]⟩) hI1.out hB1.out (by decide) (by decide)
  unfold TakePost at T
  obtain ⟨X, hX⟩ : ∃ X, takeX xs err 8 = X := ⟨_, rfl⟩
  obtain ⟨E, hE⟩ : ∃ E, takeE xs err 8 = E := ⟨_, rfl⟩
  obtain ⟨Y, hY⟩ : ∃ Y, takeY xs err 8 = Y := ⟨_, rfl⟩
  rw [hX, hE, hY] at T
  unfold numN
  rw [hX, hE, hY]
  obtain ⟨N0, hN0⟩ : ∃ N0, numOf (upto (downAt Y 8) 8) = N0 := ⟨_, rfl⟩
  rw [hN0]
  obtain ⟨C0, hC0⟩ : ∃ C0, canonI N0 = C0 := ⟨_, rfl⟩
  rw [hC0]
  have HN0 := Aside0.mk hN0
  have AC : Aside0 (real_Canon.f N0 = some C0) := Aside0.mk (congrArg some hC0)
  obtain ⟨En, hEn⟩ : ∃ En, (if (b3 && (N0 != C0)) = true then failE E 2 else E) = En := ⟨_, rfl⟩
  rw [hEn]
  have HEn := Aside0.mk hEn
  have T' := Aside0.mk T
  have HL := Aside0.mk hI.lt
  have H0 := Aside0.mk hB.size
  clear hX hE hY T hI hB hN0 hC0 hEn
  refine (callsIn_wide (n := 5)).1 (callsIn_of_wp_marks Try.func24 rfl trivial ?_ rfl)
  simp only [Try.ntmps24, List.size_toArray, List.length_cons, List.length_nil, Nat.reduceAdd, Nat.reduceSub, Array.replicate_succ, Array.replicate_zero, List.push_toArray, List.append_toArray, List.nil_append, List.cons_append]
  cases b2 <;> cases b3
  · simp at h23
  · gi_wp2_with fail
    refine ⟨trivial, (callsIn_wide.2 T'.out).mono ?_⟩
    rintro en w1 ⟨A, c, rfl, hc1, hR, hC, hB2, hK⟩
    have hrd := hR w1 (Stays.refl _ _ _)
    obtain ⟨ad, rfl, hcell⟩ := byte_at hrd 0 (by decide)
    have B2 := hK.blk B1.out (Nat.ne_of_gt HL.out) (by simp)
    have hne := byte_ne hcell B2
    have hlt := byte_lt hcell
    have hcells : ∀ j, j < 8 → w1.cell? (ad.add j) = some (.int .u8 (Y[j]?.getD 0)) := fun j hj => by
      obtain ⟨ad', e, h⟩ := byte_at hrd j (by simpa using hj)
      obtain rfl := Option.some.inj e
      rwa [List.getD_eq_getElem?_getD] at h
    have HC := Aside0.mk hC
    have HB := Aside0.mk hB2
    have HK := Aside0.mk (keep1 hK)
    have B2 := Aside0.mk B2
    have HN := Aside0.mk hne
    have HT := Aside0.mk hlt
    have HS := Aside0.mk hcells
    clear hR hC hB2 hK hrd hcell hne hlt hcells
    gi_wp2_with fail
    refine ⟨trivial, (back_in Fence.wide 4 trivial rfl _ _ _ _).mono ?_⟩
    rintro en w2 ⟨rfl, rfl⟩
    gi_wp2_with fail
    obtain ⟨W2, hW2⟩ : ∃ W2, w1.alloc (.cells #[.slice (some ad) 8 c] 27) = W2 := ⟨_, rfl⟩
    have hsz : W2.heap.size = w1.heap.size + 1 := by rw [← hW2]; simp
    have hBx : W2.heap[w1.heap.size]? = some (.cells #[.slice (some ad) 8 c] 27 (0, 0)) := by rw [← hW2]; exact heap_alloc_new w1 _
    have hBs : W2.cell? ⟨w1.heap.size, 0, none⟩ = some (.slice (some ad) 8 c) := (blk_cell hBx 0).trans rfl
    have hb1 : Below w1.heap.size w1 W2 := by rw [← hW2]; exact below_alloc (Below.refl _ _) _
    have hcs : ∀ j, j < 8 → W2.cell? (ad.add j) = some (.int .u8 (Y[j]?.getD 0)) := fun j hj => (hb1.cell (p := ad.add j) (by rw [add_block]; exact HT.out)).trans (HS.out j hj)
    have hgb := blk_lt B2.out
    have hv0 : W2.heap[w.heap.size]? = some (.cells #[.int .i64 t, .int .i64 0, .string (⟨#[]⟩ : ByteArray)] 43 (0, 0)) := blk_below B2.out hb1
    rw [hW2]
    clear hW2
    refine wpIn_rangeFunc_ownF rfl (by decide) (gf := 34) (lb := #[.pointer (some ⟨w1.heap.size, 0, none⟩)]) rfl trivial (enters_of Try.func34 (by kernel_rfl) rfl)
      (back_stops Fence.wide (5 - 1) trivial rfl (by decide) w1.heap.size W2.heap.size w.heap.size ad 8 c Y (by decide) (by rw [hsz]; exact Nat.lt_succ_of_lt HT.out) HN.out (by rw [hsz]; exact Nat.lt_succ_self _) (Nat.ne_of_gt hgb) W2 (Nat.le_refl _) hBs hcs) (fun a b => Bel.trans a b) (bel_b (Nat.le_refl _)) (Below.refl _ _) (fun _ => rfl)
      (fun pre W => W.heap[w.heap.size]? = some (.cells #[.int .i64 t, .int .i64 (numOf pre), .string (⟨#[]⟩ : ByteArray)] 43 (0, 0)) ∧ Bel W2.heap.size w.heap.size W2 W)
      (fun _ _ _ => False)
      (OwnFrom.and (fun s A B row hs hg hr => blk_grown hs hg (fun e => by obtain ⟨_, o, ho, hc⟩ := hr _ e.symm; rw [hs] at ho; cases ho; cases hc)) (bel_own (Nat.le_refl _)))
      (fun _ _ _ _ _ hs _ _ => hs)
      ⟨hv0, Bel.refl _ _ _⟩
      (fun x => { tmps := #[.pointer (some ⟨g, 0, none⟩), .int .i64 t, undef, undef, .pointer (some ⟨w.heap.size, 0, none⟩), undef, .int .u8 x.2, undef, .int .i64 t, .pointer (some ⟨w.heap.size, 0, none⟩), .int .i64 t, undef, undef, .bool false, .bool false, undef, undef, undef, undef, undef, undef, undef, undef, undef, undef, undef, .bool true, .bool false, .bool true, .pointer (some ⟨g, 0, none⟩), .slice (some ad) 8 c, .func (.func 34) #[] #[.pointer (some ⟨w1.heap.size, 0, none⟩)], .int .i64 x.1, .int .u8 x.2, undef, undef, undef, undef, undef, undef, undef, undef, undef, undef, undef, undef, undef, undef, undef, undef, undef, undef, undef, undef, undef, undef, undef, undef, undef, undef, undef, undef, undef, undef, undef, undef, undef, undef, undef, undef], defers := [] }) ?assign ?body ?done ?stop
    case assign =>
      intro l x W K hK
      gi_wp2
      exact hK
    case stop =>
      rintro D c' pre W _ _ h _
      exact h.elim
    case body =>
      rintro l pre x W ⟨hv, hbel⟩ _
      have k1 : W.cell? ⟨w.heap.size, 1, none⟩ = some (.int .i64 (numOf pre)) := (blk_cell hv 1).trans rfl
      have f1 := blk_frozen hv 1
      have HV := Aside0.mk hv
      clear hv
      gi_wp2
      have hv2 := blk_set HV.out 1 (.int .i64 (numStep (numOf pre) x.2))
      refine ⟨KeepsOthers.setCell _ _ _, Bel.set, ?_, hbel.trans Bel.set⟩
      rw [numOf_snoc]
      simpa [numStep] using hv2
    case done =>
      rintro D ys W hD rfl ⟨hv, hbel⟩ hK
      rw [HN0.out] at hv
      have HW := Aside0.mk ((HC.out.step hb1).bel hbel (Nat.le_refl _) HL.out)
      have HWB := Aside0.mk (((HB.out.trans (hb1.mono HB.out.size))).trans (hbel.below H0.out (Nat.le_trans H0.out (by omega))))
      have HWK := Aside0.mk (keep_gb HK.out hb1 hbel (Nat.le_refl _) hgb)
      have k1 : W.cell? ⟨w.heap.size, 1, none⟩ = some (.int .i64 N0) := (blk_cell hv 1).trans rfl
      have l0 : W.cell? ⟨w.heap.size, 0, none⟩ = some (.int .i64 t) := (blk_cell hv 0).trans rfl
      have l2 : W.cell? ⟨w.heap.size, 2, none⟩ = some (.string (⟨#[]⟩ : ByteArray)) := (blk_cell hv 2).trans rfl
      have g0 := blk_frozen hv 0
      have f1 := blk_frozen hv 1
      have g2 := blk_frozen hv 2
      have HD := Aside0.mk (Nat.lt_of_lt_of_le (Nat.lt_of_lt_of_le hgb (by omega : w1.heap.size ≤ W2.heap.size)) hD)
      have HK0 := Aside0.mk hK
      have HV := Aside0.mk hv
      clear hK hv hbel
      gi_wp2_with fail
      refine (wpIn_wide (n := 5)).2 ?_
      cases hq : (N0 != C0)
      · obtain rfl : E = En := by have := HEn.out; rw [hq] at this; simpa using this
        go_wp2_with (first | (go_at_call 27; (with_reducible refine (real_Canon.calls N0 C0 _ AC.out).mono ?_); rintro e w' ⟨rfl, ⟨nd, rfl⟩⟩; (try first | exact ⟨rfl, _, World.drewN_drewN _ _ _⟩ | exact ⟨rfl, _, Eq.trans (World.drewN_drewN _ _ _) (congrArg (World.drewN _) (Nat.add_assoc _ _ _))⟩)))
        repeat (go_quiet (first | (go_at_call 27; (with_reducible refine (real_Canon.calls N0 C0 _ AC.out).mono ?_); rintro e w' ⟨rfl, ⟨nd, rfl⟩⟩; (try first | exact ⟨rfl, _, World.drewN_drewN _ _ _⟩ | exact ⟨rfl, _, Eq.trans (World.drewN_drewN _ _ _) (congrArg (World.drewN _) (Nat.add_assoc _ _ _))⟩))); try go_wp2_with (first | (go_at_call 27; (with_reducible refine (real_Canon.calls N0 C0 _ AC.out).mono ?_); rintro e w' ⟨rfl, ⟨nd, rfl⟩⟩; (try first | exact ⟨rfl, _, World.drewN_drewN _ _ _⟩ | exact ⟨rfl, _, Eq.trans (World.drewN_drewN _ _ _) (congrArg (World.drewN _) (Nat.add_assoc _ _ _))⟩))))
        gi_wp2_with fail
        refine ⟨by simp, .inl ⟨_, _, rfl, run_takeDeferred (fin_num t N0 ⟨#[]⟩ HL.out (Nat.le_refl _) HD.out H0.out (Cut.drawN HW.out nq) (pw_below_drewN HWB.out nq) (keep_drewN HWK.out nq) (show (W.drewN nq).heap[D]? = _ from HK0.out) (show (W.drewN nq).heap[w.heap.size]? = _ from HV.out)).1, ?_⟩⟩
        obtain ⟨r1, r2, r3, r4, r5⟩ := fin_num t N0 ⟨#[]⟩ HL.out (Nat.le_refl _) HD.out H0.out (Cut.drawN HW.out nq) (pw_below_drewN HWB.out nq) (keep_drewN HWK.out nq) (show (W.drewN nq).heap[D]? = _ from HK0.out) (show (W.drewN nq).heap[w.heap.size]? = _ from HV.out)
        exact ⟨_, results_one rfl _ _ w.heap.size 43 #[.int .i64 t, .int .i64 N0, .string (⟨#[]⟩ : ByteArray)] (0, 0) _ rfl r2 Try.underlying43 rfl (by kernel_rfl), rfl, r3, r4, r5⟩
      · have HF := HEn.out
        rw [hq] at HF
        rw [if_pos (by rfl)] at HF
        have HF := Aside0.mk HF
        go_wp2_with (first | (go_at_call 27; (with_reducible refine (real_Canon.calls N0 C0 _ AC.out).mono ?_); rintro e w' ⟨rfl, ⟨nd, rfl⟩⟩; (try first | exact ⟨rfl, _, World.drewN_drewN _ _ _⟩ | exact ⟨rfl, _, Eq.trans (World.drewN_drewN _ _ _) (congrArg (World.drewN _) (Nat.add_assoc _ _ _))⟩)))
        repeat (go_quiet (first | (go_at_call 27; (with_reducible refine (real_Canon.calls N0 C0 _ AC.out).mono ?_); rintro e w' ⟨rfl, ⟨nd, rfl⟩⟩; (try first | exact ⟨rfl, _, World.drewN_drewN _ _ _⟩ | exact ⟨rfl, _, Eq.trans (World.drewN_drewN _ _ _) (congrArg (World.drewN _) (Nat.add_assoc _ _ _))⟩))); try go_wp2_with (first | (go_at_call 27; (with_reducible refine (real_Canon.calls N0 C0 _ AC.out).mono ?_); rintro e w' ⟨rfl, ⟨nd, rfl⟩⟩; (try first | exact ⟨rfl, _, World.drewN_drewN _ _ _⟩ | exact ⟨rfl, _, Eq.trans (World.drewN_drewN _ _ _) (congrArg (World.drewN _) (Nat.add_assoc _ _ _))⟩))))
        gi_wp2_with fail
        refine ⟨trivial, (callsIn_wide.2 (fail_calls g X E 2 w0 _ (Cut.drawN HW.out nq) (pw_below_drewN HWB.out nq))).mono ?_⟩
        rintro en W3 ⟨rfl, hC, hB2, hK⟩
        rw [HF.out] at hC
        have HV3 := Aside0.mk (hK.blk (show (W.drewN nq).heap[w.heap.size]? = _ from HV.out) (Nat.ne_of_gt HL.out) (by simp))
        have HK3 := Aside0.mk (hK.blk (show (W.drewN nq).heap[D]? = _ from HK0.out) (Nat.ne_of_gt (Nat.lt_trans HL.out HD.out)) (by simp))
        have HW3 := Aside0.mk hC
        have HWB3 := Aside0.mk hB2
        have HWK3 := Aside0.mk ((keep_drewN HWK.out nq).trans hK (.inl rfl))
        have m0 : W3.cell? ⟨w.heap.size, 0, none⟩ = some (.int .i64 t) := (blk_cell HV3.out 0).trans rfl
        have m1 : W3.cell? ⟨w.heap.size, 1, none⟩ = some (.int .i64 N0) := (blk_cell HV3.out 1).trans rfl
        have m2 : W3.cell? ⟨w.heap.size, 2, none⟩ = some (.string (⟨#[]⟩ : ByteArray)) := (blk_cell HV3.out 2).trans rfl
        have n0 := blk_frozen HV3.out 0
        have n1 := blk_frozen HV3.out 1
        have n2 := blk_frozen HV3.out 2
        clear hC hB2 hK
        gi_wp2_with fail
        refine ⟨by simp, .inl ⟨_, _, rfl, run_takeDeferred (fin_num t N0 ⟨#[]⟩ HL.out (Nat.le_refl _) HD.out H0.out HW3.out HWB3.out HWK3.out HK3.out HV3.out).1, ?_⟩⟩
        obtain ⟨r1, r2, r3, r4, r5⟩ := fin_num t N0 ⟨#[]⟩ HL.out (Nat.le_refl _) HD.out H0.out HW3.out HWB3.out HWK3.out HK3.out HV3.out
        exact ⟨_, results_one rfl _ _ w.heap.size 43 #[.int .i64 t, .int .i64 N0, .string (⟨#[]⟩ : ByteArray)] (0, 0) _ rfl r2 Try.underlying43 rfl (by kernel_rfl), rfl, r3, r4, r5⟩
  · gi_wp2_with fail
    refine ⟨trivial, (callsIn_wide.2 T'.out).mono ?_⟩
    rintro en w1 ⟨A, c, rfl, hc1, hR, hC, hB2, hK⟩
    have hrd := hR w1 (Stays.refl _ _ _)
    obtain ⟨ad, rfl, hcell⟩ := byte_at hrd 0 (by decide)
    have B2 := hK.blk B1.out (Nat.ne_of_gt HL.out) (by simp)
    have hne := byte_ne hcell B2
    have hlt := byte_lt hcell
    have hcells : ∀ j, j < 8 → w1.cell? (ad.add j) = some (.int .u8 (Y[j]?.getD 0)) := fun j hj => by
      obtain ⟨ad', e, h⟩ := byte_at hrd j (by simpa using hj)
      obtain rfl := Option.some.inj e
      rwa [List.getD_eq_getElem?_getD] at h
    have HC := Aside0.mk hC
    have HB := Aside0.mk hB2
    have HK := Aside0.mk (keep1 hK)
    have B2 := Aside0.mk B2
    have HN := Aside0.mk hne
    have HT := Aside0.mk hlt
    have HS := Aside0.mk hcells
    clear hR hC hB2 hK hrd hcell hne hlt hcells
    gi_wp2_with fail
    refine ⟨trivial, (back_in Fence.wide 4 trivial rfl _ _ _ _).mono ?_⟩
    rintro en w2 ⟨rfl, rfl⟩
    gi_wp2_with fail
    obtain ⟨W2, hW2⟩ : ∃ W2, w1.alloc (.cells #[.slice (some ad) 8 c] 27) = W2 := ⟨_, rfl⟩
    have hsz : W2.heap.size = w1.heap.size + 1 := by rw [← hW2]; simp
    have hBx : W2.heap[w1.heap.size]? = some (.cells #[.slice (some ad) 8 c] 27 (0, 0)) := by rw [← hW2]; exact heap_alloc_new w1 _
    have hBs : W2.cell? ⟨w1.heap.size, 0, none⟩ = some (.slice (some ad) 8 c) := (blk_cell hBx 0).trans rfl
    have hb1 : Below w1.heap.size w1 W2 := by rw [← hW2]; exact below_alloc (Below.refl _ _) _
    have hcs : ∀ j, j < 8 → W2.cell? (ad.add j) = some (.int .u8 (Y[j]?.getD 0)) := fun j hj => (hb1.cell (p := ad.add j) (by rw [add_block]; exact HT.out)).trans (HS.out j hj)
    have hgb := blk_lt B2.out
    have hv0 : W2.heap[w.heap.size]? = some (.cells #[.int .i64 t, .int .i64 0, .string (⟨#[]⟩ : ByteArray)] 43 (0, 0)) := blk_below B2.out hb1
    rw [hW2]
    clear hW2
    refine wpIn_rangeFunc_ownF rfl (by decide) (gf := 34) (lb := #[.pointer (some ⟨w1.heap.size, 0, none⟩)]) rfl trivial (enters_of Try.func34 (by kernel_rfl) rfl)
      (back_stops Fence.wide (5 - 1) trivial rfl (by decide) w1.heap.size W2.heap.size w.heap.size ad 8 c Y (by decide) (by rw [hsz]; exact Nat.lt_succ_of_lt HT.out) HN.out (by rw [hsz]; exact Nat.lt_succ_self _) (Nat.ne_of_gt hgb) W2 (Nat.le_refl _) hBs hcs) (fun a b => Bel.trans a b) (bel_b (Nat.le_refl _)) (Below.refl _ _) (fun _ => rfl)
      (fun pre W => W.heap[w.heap.size]? = some (.cells #[.int .i64 t, .int .i64 (numOf pre), .string (⟨#[]⟩ : ByteArray)] 43 (0, 0)) ∧ Bel W2.heap.size w.heap.size W2 W)
      (fun _ _ _ => False)
      (OwnFrom.and (fun s A B row hs hg hr => blk_grown hs hg (fun e => by obtain ⟨_, o, ho, hc⟩ := hr _ e.symm; rw [hs] at ho; cases ho; cases hc)) (bel_own (Nat.le_refl _)))
      (fun _ _ _ _ _ hs _ _ => hs)
      ⟨hv0, Bel.refl _ _ _⟩
      (fun x => { tmps := #[.pointer (some ⟨g, 0, none⟩), .int .i64 t, undef, undef, .pointer (some ⟨w.heap.size, 0, none⟩), undef, .int .u8 x.2, undef, .int .i64 t, .pointer (some ⟨w.heap.size, 0, none⟩), .int .i64 t, undef, undef, .bool false, .bool false, undef, undef, undef, undef, undef, undef, undef, undef, undef, undef, undef, .bool true, .bool true, undef, .pointer (some ⟨g, 0, none⟩), .slice (some ad) 8 c, .func (.func 34) #[] #[.pointer (some ⟨w1.heap.size, 0, none⟩)], .int .i64 x.1, .int .u8 x.2, undef, undef, undef, undef, undef, undef, undef, undef, undef, undef, undef, undef, undef, undef, undef, undef, undef, undef, undef, undef, undef, undef, undef, undef, undef, undef, undef, undef, undef, undef, undef, undef, undef, undef, undef, undef], defers := [] }) ?assign ?body ?done ?stop
    case assign =>
      intro l x W K hK
      gi_wp2
      exact hK
    case stop =>
      rintro D c' pre W _ _ h _
      exact h.elim
    case body =>
      rintro l pre x W ⟨hv, hbel⟩ _
      have k1 : W.cell? ⟨w.heap.size, 1, none⟩ = some (.int .i64 (numOf pre)) := (blk_cell hv 1).trans rfl
      have f1 := blk_frozen hv 1
      have HV := Aside0.mk hv
      clear hv
      gi_wp2
      have hv2 := blk_set HV.out 1 (.int .i64 (numStep (numOf pre) x.2))
      refine ⟨KeepsOthers.setCell _ _ _, Bel.set, ?_, hbel.trans Bel.set⟩
      rw [numOf_snoc]
      simpa [numStep] using hv2
    case done =>
      rintro D ys W hD rfl ⟨hv, hbel⟩ hK
      rw [HN0.out] at hv
      have HW := Aside0.mk ((HC.out.step hb1).bel hbel (Nat.le_refl _) HL.out)
      have HWB := Aside0.mk (((HB.out.trans (hb1.mono HB.out.size))).trans (hbel.below H0.out (Nat.le_trans H0.out (by omega))))
      have HWK := Aside0.mk (keep_gb HK.out hb1 hbel (Nat.le_refl _) hgb)
      have k1 : W.cell? ⟨w.heap.size, 1, none⟩ = some (.int .i64 N0) := (blk_cell hv 1).trans rfl
      have l0 : W.cell? ⟨w.heap.size, 0, none⟩ = some (.int .i64 t) := (blk_cell hv 0).trans rfl
      have l2 : W.cell? ⟨w.heap.size, 2, none⟩ = some (.string (⟨#[]⟩ : ByteArray)) := (blk_cell hv 2).trans rfl
      have g0 := blk_frozen hv 0
      have f1 := blk_frozen hv 1
      have g2 := blk_frozen hv 2
      have HD := Aside0.mk (Nat.lt_of_lt_of_le (Nat.lt_of_lt_of_le hgb (by omega : w1.heap.size ≤ W2.heap.size)) hD)
      have HK0 := Aside0.mk hK
      have HV := Aside0.mk hv
      clear hK hv hbel
      gi_wp2_with fail
      refine (wpIn_wide (n := 5)).2 ?_
      · obtain rfl : E = En := by have := HEn.out; simpa using this
        go_wp2_with (first | (go_at_call 27; (with_reducible refine (real_Canon.calls N0 C0 _ AC.out).mono ?_); rintro e w' ⟨rfl, ⟨nd, rfl⟩⟩; (try first | exact ⟨rfl, _, World.drewN_drewN _ _ _⟩ | exact ⟨rfl, _, Eq.trans (World.drewN_drewN _ _ _) (congrArg (World.drewN _) (Nat.add_assoc _ _ _))⟩)))
        repeat (go_quiet (first | (go_at_call 27; (with_reducible refine (real_Canon.calls N0 C0 _ AC.out).mono ?_); rintro e w' ⟨rfl, ⟨nd, rfl⟩⟩; (try first | exact ⟨rfl, _, World.drewN_drewN _ _ _⟩ | exact ⟨rfl, _, Eq.trans (World.drewN_drewN _ _ _) (congrArg (World.drewN _) (Nat.add_assoc _ _ _))⟩))); try go_wp2_with (first | (go_at_call 27; (with_reducible refine (real_Canon.calls N0 C0 _ AC.out).mono ?_); rintro e w' ⟨rfl, ⟨nd, rfl⟩⟩; (try first | exact ⟨rfl, _, World.drewN_drewN _ _ _⟩ | exact ⟨rfl, _, Eq.trans (World.drewN_drewN _ _ _) (congrArg (World.drewN _) (Nat.add_assoc _ _ _))⟩))))
        gi_wp2_with fail
        refine ⟨by simp, .inl ⟨_, _, rfl, run_takeDeferred (fin_num t N0 ⟨#[]⟩ HL.out (Nat.le_refl _) HD.out H0.out (Cut.drawN HW.out nq) (pw_below_drewN HWB.out nq) (keep_drewN HWK.out nq) (show (W.drewN nq).heap[D]? = _ from HK0.out) (show (W.drewN nq).heap[w.heap.size]? = _ from HV.out)).1, ?_⟩⟩
        obtain ⟨r1, r2, r3, r4, r5⟩ := fin_num t N0 ⟨#[]⟩ HL.out (Nat.le_refl _) HD.out H0.out (Cut.drawN HW.out nq) (pw_below_drewN HWB.out nq) (keep_drewN HWK.out nq) (show (W.drewN nq).heap[D]? = _ from HK0.out) (show (W.drewN nq).heap[w.heap.size]? = _ from HV.out)
        exact ⟨_, results_one rfl _ _ w.heap.size 43 #[.int .i64 t, .int .i64 N0, .string (⟨#[]⟩ : ByteArray)] (0, 0) _ rfl r2 Try.underlying43 rfl (by kernel_rfl), rfl, r3, r4, r5⟩
  · simp at h23
end Go.Proofs.Ytnjobnkkpfaigaa
