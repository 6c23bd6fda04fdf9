import Derived.Test.YtnjobnkkpfaigaaZeC5
/- Package rows: Decode. -/
namespace Go.Proofs.Ytnjobnkkpfaigaa
open Go.RowKit Go.Shelf Go.Proofs.YtnjobnkkpfaigaaW.PrintWords Go.Proofs.YtnjobnkkpfaigaaW.PrintLast Go.Proofs.YtnjobnkkpfaigaaW.PrintMore A Fl
set_option linter.unusedVariables false
set_option linter.unusedSimpArgs false
/-- The bit test, as the machine reckons it. -/
def bitC (y : Int) (i : Nat) : Bool := bits .and .u8 (y / 2 ^ (i % 8)) 1 == 0
def padE (NL : List Int) (l m : Nat) (E : Int) : Int := if (decide ((l : Int) % 8 > 0) && (NL[m - 1]?.getD 0 / 2 ^ (l % 8) != 0)) = true then failE E 2 else E
def decGo (NL : List Int) : List S47 → Nat → List Int → Int → List S43 → List S43 × Int
  | [], i, xs, err, row => if (if xs.length > 0 then failE err 4 else err) ≠ 0 then ([], if xs.length > 0 then failE err 4 else err) else (row, 0)
  | c :: cs, i, xs, err, row =>
    if bitC (NL.getD (i / 8) 0) i = true then
      (if (valR xs err c.f1).err ≠ 0 then ([], (valR xs err c.f1).err) else decGo NL cs (i + 1) (valR xs err c.f1).xs (valR xs err c.f1).err (row ++ [(valR xs err c.f1).v]))
    else
      (if (if c.f2 = true then failE err 60 else err) ≠ 0 then ([], if c.f2 = true then failE err 60 else err) else decGo NL cs (i + 1) xs (if c.f2 = true then failE err 60 else err) (row ++ [⟨0, 0, ⟨#[]⟩⟩]))
def decodeV (l0 : List S47) (l1 : List Int) : List S43 × Int :=
  decGo (takeY l1 0 ((l0.length + 7) / 8 : Nat)) l0 0 (takeX l1 0 ((l0.length + 7) / 8 : Nat)) (padE (takeY l1 0 ((l0.length + 7) / 8 : Nat)) l0.length ((l0.length + 7) / 8) (takeE l1 0 ((l0.length + 7) / 8 : Nat))) []
theorem Cut.low {w0 A B : World} {g n : Nat} {X : List Int} {E : Int} (h : Cut w0 A g X E) (hb : Below n A B) (hg : g < n) : Cut w0 B g X E := by
  obtain ⟨A0, c0, h1, h2, h3, h4⟩ := h
  exact ⟨A0, c0, h1, (hb.block g hg).trans h2, h3, h4⟩
theorem keep_low {w2 A B : World} {g : Nat} (h : KeepBut w2 A g none) (hb : Below w2.heap.size A B) : KeepBut w2 B g none :=
  ⟨Nat.le_trans h.1 hb.size, fun i hi hg hr => (hb.block i hi).trans (h.2 i hi hg hr)⟩
theorem Cut.cells {w0 W : World} {g : Nat} {xs : List Int} {err : Int} (h : Cut w0 W g xs err) : ∃ A c, W.cell? ⟨g, 0, none⟩ = some (.slice A xs.length c) ∧ W.cell? ⟨g, 1, none⟩ = some (.int .i64 err) := by
  obtain ⟨A0, c0, h1, h2, h3, h4⟩ := h
  exact ⟨A0, c0, (blk_cell h2 0).trans rfl, (blk_cell h2 1).trans rfl⟩
set_option maxHeartbeats 4000000 in
set_option maxRecDepth 100000 in
theorem decode_calls (A0 : Option Addr) (c0 : Nat) (l0 : List (S47)) (A1 : Option Addr) (c1 : Nat) (l1 : List Int) (r1 : List (S43)) (r2 : Int) (w : World) (hr0 : Kd.C k47 w A0 l0.length l0) (hc0 : l0.length ≤ c0) (hr1 : Kd.C (Kd.int .u8) w A1 l1.length l1) (hc1 : l1.length ≤ c1) (hx : ∀ x ∈ l1, 0 ≤ x ∧ x < 256) (hl0 : l0.length ≤ 4398046511104) (h : decodeV l0 l1 = (r1, r2)) :
    Calls Try.prog 17 #[.slice A0 l0.length c0, .slice A1 l1.length c1] w fun e w' => ∃ v0_ : Value, e = .returned (.tuple #[v0_, .int .i64 r2]) ∧ Kd.R k43 43 w' w.heap.size (fun _ => True) v0_ r1 ∧ Below w.heap.size w w' := by
  unfold decodeV at h
  obtain ⟨m, hm⟩ : ∃ m : Nat, (l0.length + 7) / 8 = m := ⟨_, rfl⟩
  rw [hm] at h
  have hn0 : wrap64 (Int.tdiv (wrap64 ((l0.length : Int) + 7)) 8) = (m : Int) := by
    rw [IntWalk.wrap64_in ((l0.length : Int) + 7) (by omega), Int.tdiv_eq_ediv_of_nonneg (by omega), IntWalk.wrap64_in _ (by omega)]
    omega
  have HBM : Aside0 (rows_bitmap.f (l0.length : Int) = some (m : Int)) := Aside0.mk (congrArg some hn0)
  have HR0 := Aside0.mk hr0
  have HR1 := Aside0.mk hr1
  have HC0 := Aside0.mk hc0
  have HC1 := Aside0.mk hc1
  have HM := Aside0.mk hm
  clear hr0 hr1 hc0 hc1 hn0 hm
  have hC0 : Cut w (w.alloc (.cells #[.slice A1 l1.length c1, .int .i64 0] 56)) w.heap.size l1 0 := ⟨A1, c1, HC1.out, heap_alloc_new w _, Nat.le_refl _, HR1.out⟩
  have HCut := Aside0.mk hC0
  have HB := Aside0.mk (below_alloc (Below.refl w.heap.size w) (.cells #[.slice A1 l1.length c1, .int .i64 0] 56))
  obtain ⟨NL, hNL⟩ : ∃ NL, takeY l1 0 m = NL := ⟨_, rfl⟩
  obtain ⟨X0, hX0⟩ : ∃ X0, takeX l1 0 m = X0 := ⟨_, rfl⟩
  obtain ⟨E0, hE0⟩ : ∃ E0, takeE l1 0 m = E0 := ⟨_, rfl⟩
  rw [hNL, hX0, hE0] at h
  have HDec := Aside0.mk h
  clear h
  have HNL := Aside0.mk hNL
  have HX0 := Aside0.mk hX0
  have HE0 := Aside0.mk hE0
  have HX := Aside0.mk (by rw [← hX0]; exact bytes_takeX hx 0 m : ∀ x ∈ X0, 0 ≤ x ∧ x < 256)
  clear hC0 hNL hX0 hE0 hx
  have HL := Aside0.mk hl0
  clear hl0
  go_enter Try.func17, Try.ntmps17
  go_wp2_with fail
  refine (rows_bitmap.calls _ (m : Int) _ HBM.out).mono ?_
  rintro en w1 ⟨rfl, nd, rfl⟩
  go_wp2_with fail
  refine (take_calls w.heap.size l1 0 m w _ (Cut.drawN HCut.out nd) (pw_below_drewN HB.out nd) (by omega) (by have := HM.out; have := HL.out; omega)).mono ?_
  rintro en w2 ⟨A2, c2, rfl, hc2, hR, hC, hB2, hK⟩
  rw [HX0.out, HE0.out] at hC
  rw [HNL.out] at hR
  have hR' : ∀ W', KeepBut w2 W' w.heap.size none → u8.C W' A2 m NL := fun W' hk => by simpa using hR W' (Stays.of_keep hk (Nat.le_refl _) (by simp))
  have HR := Aside0.mk hR'
  have HC := Aside0.mk hC
  have HB2 := Aside0.mk hB2
  have Hc2 := Aside0.mk hc2
  clear hR hR' hC hB2 hK hc2
  rw [Int.toNat_natCast]
  go_upto_region 3 with fail
  (try simp only [Act.put, List.setIfInBounds_toArray, List.set_cons_zero, List.set_cons_succ])
  obtain ⟨E1, hE1⟩ : ∃ E1, padE NL l0.length m E0 = E1 := ⟨_, rfl⟩
  rw [hE1] at HDec
  have HE1 := Aside0.mk hE1
  clear hE1
  rename_i K1 hK1 K2 hK2
  have key : ∀ (v8 v21 v22 v23 v24 v25 v26 v27 v28 v29 v30 v31 v32 v33 v34 v35 v36 v37 v38 : Value) (wc : World), Aside0 (Cut w wc w.heap.size X0 E1) → Aside0 (Below w.heap.size w wc) → Aside0 (KeepBut w2 wc w.heap.size none) →
      K1 { tmps := #[.slice A0 l0.length c0, .slice A1 l1.length c1, undef, undef, .slice none 0 0, .int .i64 0, .pointer (some ⟨w.heap.size, 0, none⟩), .slice A2 m c2, v8, undef, undef, undef, undef, .slice A1 l1.length c1, .agg #[.slice A1 l1.length c1, .int .i64 0], .pointer (some ⟨w.heap.size, 0, none⟩), .pointer (some ⟨w.heap.size, 0, none⟩), .slice A0 l0.length c0, .int .i64 (l0.length : Int), .int .i64 (m : Int), .slice A2 m c2, v21, v22, v23, v24, v25, v26, v27, v28, v29, v30, v31, v32, v33, v34, v35, v36, v37, v38, undef, undef, undef, undef, undef, undef, undef, undef, undef, undef, undef, undef, undef, undef, undef, undef, undef, undef, undef, undef, undef, undef, undef, undef, undef, undef, undef, undef, undef, undef, undef, undef, undef, undef, undef, undef, undef, undef, undef, undef, undef, undef, undef, undef, undef, undef, undef, undef, undef, undef, undef, undef, undef, undef, undef, undef, undef], defers := [] } wc := by
    intro v8 v21 v22 v23 v24 v25 v26 v27 v28 v29 v30 v31 v32 v33 v34 v35 v36 v37 v38 wc HCc HBc HKc
    clear hK2
    refine hK1 _ _ ?_
    clear hK1
    go_wp2_with fail
    go_loopw [9, 41] (fun v9 v41 wr => ∃ (i : Nat) (xs : List Int) (err : Int) (row : List S43), v41 = .int .i64 (i : Int) ∧ i ≤ l0.length ∧ Aside0 (decGo NL (l0.drop i) i xs err row = (r1, r2)) ∧ Aside0 (row.length ≤ i) ∧ Aside0 (∀ x ∈ xs, 0 ≤ x ∧ x < 256) ∧ Aside0 (Kd.R k43 43 wr w2.heap.size (fun k => k ≠ w.heap.size) v9 row) ∧ Aside0 (Cut w wr w.heap.size xs err) ∧ Aside0 (Below w.heap.size w wr) ∧ Aside0 (KeepBut w2 wr w.heap.size none))
      (fun _ v41 _ => (l0.length - (intOf v41).toNat))
    case atStart => exact ⟨0, X0, E1, [], rfl, Nat.zero_le _, HDec, ⟨Nat.le_refl _⟩, HX, ⟨Kd.R_nil _ _ _ _ _⟩, HCc, HBc, HKc⟩
    case round =>
      obtain ⟨i, xs, err, row, rfl, hil, HA, HRow, HXs, HO, HCr, HBr, HKr⟩ := hrel
      by_cases hlt : i < l0.length
      · have hlt' : (i : Int) < (l0.length : Int) := by omega
        have cq1 : decide ((i : Int) < (l0.length : Int)) = true := decide_eq_true hlt'
        obtain ⟨adc, rfl, hq0, hq1, hq2⟩ := at_T47 HR0.out (i : Int) (by omega) hlt'
        have hq0 := (HBr.out.cell (World.block_lt_of_cell? w _ hq0)).trans hq0
        have hq1 := (HBr.out.cell (World.block_lt_of_cell? w _ hq1)).trans hq1
        have hq2 := (HBr.out.cell (World.block_lt_of_cell? w _ hq2)).trans hq2
        rw [Int.toNat_natCast] at hq0 hq1 hq2
        have hA := HA.out
        rw [List.drop_eq_getElem_cons hlt] at hA
        have hci : l0[i] = rd_T47 l0 (i : Int) := by simp [rd_T47, List.getD, hlt]
        rw [hci] at hA
        obtain ⟨ci, hci2⟩ : ∃ ci, rd_T47 l0 (i : Int) = ci := ⟨_, rfl⟩
        rw [hci2] at hA hq0 hq1 hq2
        clear hci hci2
        obtain ⟨cf0, cf1, cf2⟩ := ci
        unfold decGo at hA
        dsimp only at hA hq0 hq1 hq2
        obtain ⟨W3, hW3⟩ : ∃ W3, (wr.alloc (.cells #[.string cf0, .int .i64 cf1, .bool cf2] 47)).alloc (.cells #[.int .i64 0, .int .i64 0, .string (⟨#[]⟩ : ByteArray)] 43) = W3 := ⟨_, rfl⟩
        have hm8 : i / 8 < m := by have := HM.out; omega
        have hKW : KeepBut w2 W3 w.heap.size none := by rw [← hW3]; exact keep_alloc (keep_alloc HKr.out _) _
        obtain ⟨ad, rfl, hcell⟩ := byte_at (HR.out W3 hKW) (i / 8) hm8
        obtain ⟨y, hy⟩ : ∃ y, NL.getD (i / 8) 0 = y := ⟨_, rfl⟩
        rw [hy] at hA hcell
        have hw8 : wrap64 ((i : Int) / 8) = ((i / 8 : Nat) : Int) := by rw [IntWalk.wrap64_in _ (by have := HL.out; omega)]; omega
        have hm8t : (i / 8 < m) = True := eq_true hm8
        have BKc : W3.heap[wr.heap.size]? = some (.cells #[.string cf0, .int .i64 cf1, .bool cf2] 47 (0, 0)) := by rw [← hW3]; exact blk_alloc (heap_alloc_new wr _) _
        have BKv : W3.heap[wr.heap.size + 1]? = some (.cells #[.int .i64 0, .int .i64 0, .string (⟨#[]⟩ : ByteArray)] 43 (0, 0)) := by
          rw [← hW3]
          have := heap_alloc_new (wr.alloc (.cells #[.string cf0, .int .i64 cf1, .bool cf2] 47)) (.cells #[.int .i64 0, .int .i64 0, .string (⟨#[]⟩ : ByteArray)] 43)
          rwa [World.size_alloc] at this
        have kc1 : W3.cell? ⟨wr.heap.size, 1, none⟩ = some (.int .i64 cf1) := (blk_cell BKc 1).trans rfl
        have kc2 : W3.cell? ⟨wr.heap.size, 2, none⟩ = some (.bool cf2) := (blk_cell BKc 2).trans rfl
        have BKc := Aside0.mk BKc
        have BKv := Aside0.mk BKv
        have hltA : i + 1 ≤ l0.length := hlt
        clear hm8 hlt hlt'
        have HI : Aside0 (i + 1 ≤ l0.length) := ⟨hltA⟩
        have hwi : wrap64 ((i : Int) + 1) = ((i + 1 : Nat) : Int) := by rw [IntWalk.wrap64_in _ (by have := HL.out; have := HI.out; omega)]; omega
        have h88 : (0 ≤ (i : Int) / 8 ∧ (i : Int) / 8 < (m : Int)) = True := eq_true ⟨by omega, by have := HM.out; have := HI.out; omega⟩
        have hltn : (i < l0.length) = True := eq_true hltA
        have hlw : Below wr.heap.size wr W3 := by rw [← hW3]; exact below_alloc (below_alloc (Below.refl _ _) _) _
        have HLW := Aside0.mk hlw
        have HC3 := Aside0.mk (HCr.out.step hlw)
        have HB3 := Aside0.mk (HBr.out.trans (hlw.mono HBr.out.size))
        have HG := Aside0.mk HCr.out.lt
        clear hlw hltA
        cases hb1 : bitC y i
        · rw [hb1, if_neg (by decide)] at hA
          unfold bitC at hb1
          cases cf2
          · simp only [Bool.false_eq_true, if_false] at hA
            have HCp := HC3
            have HBp := HB3
            have HKp := Aside0.mk (KeepBut.of_below HLW.out w.heap.size none)
            have BVp := BKv
            obtain ⟨Ae, ce, he0, he1⟩ := HCp.out.cells
            have HOp := Aside0.mk (Kd.R_keep HO.out HKp.out (fun k h => h))
            have Hs2 := Aside0.mk (Nat.le_trans HKr.out.1 HKp.out.1)
            have HAL : Aside0 ((row.length + 1) * 32 ≤ 140737488355328) := ⟨by have := HRow.out; have := HL.out; have := HI.out; omega⟩
            by_cases hz : err ≠ 0
            · rw [if_pos hz] at hA
              obtain ⟨rfl, rfl⟩ := Prod.mk.inj hA
              have hzb : (err != 0) = true := bne_iff_ne.mpr hz
              clear hA hz
              go_wp2_with fail
              all_goals go_region
              all_goals go_wp2
              all_goals (go_ret2; exact ⟨_, rfl, Kd.R_nil _ _ _ _ _, by first | exact HBp.out | exact below_drew1 HBp.out | exact pw_below_drewN HBp.out _⟩)
            · rw [if_neg hz] at hA
              have hzb : (err != 0) = false := by simpa using hz
              have HA' := Aside0.mk hA
              have lv0 : W3.cell? ⟨wr.heap.size + 1, 0, none⟩ = some (.int .i64 0) := (blk_cell BVp.out 0).trans rfl
              have lv1 : W3.cell? ⟨wr.heap.size + 1, 1, none⟩ = some (.int .i64 0) := (blk_cell BVp.out 1).trans rfl
              have lv2 : W3.cell? ⟨wr.heap.size + 1, 2, none⟩ = some (.string (⟨#[]⟩ : ByteArray)) := (blk_cell BVp.out 2).trans rfl
              clear hA hz
              go_wp2_with (first | ((with_reducible refine gate_builtin (b := .append) (xs := #[.tmp 73, .tmp 75]) rfl ?_); at_builtin; refine Kd.R_append k43 (w0 := W3) w2.heap.size rfl (.tmp 73) (.tmp 75) 23 43 (.agg #[(.int .i64 0), (.int .i64 0), (.string ⟨#[]⟩)]) 32 rfl Try.underlying23 info43 rfl (by decide) (by omega) u9 row (⟨0, 0, (⟨#[]⟩ : ByteArray)⟩ : S43) [.int .i64 0, .int .i64 0, .string (⟨#[]⟩ : ByteArray)] (fun k => k ≠ w.heap.size) (fun _ => False) rfl rfl ?aP (fun _ hk => hk.elim) ?aF ?aO ?aB ?aS ?aL ?_; (case aP => exact k43_mkM _ _ _ (⟨0, 0, (⟨#[]⟩ : ByteArray)⟩ : S43)); (case aB => exact Below.refl _ _); (case aF => exact (fun k hk => Nat.ne_of_gt (Nat.lt_of_lt_of_le HCp.out.lt hk))); (case aO => exact HOp.out); (case aS => exact Hs2.out); (case aL => exact HAL.out); intro v79 w7 ho hb hg hat; have HO7 := Aside0.mk ho; have HB7 := Aside0.mk hb; clear ho hb hg hat))
              all_goals go_roundw
              case measure => rw [hwi]; simp only [intOf]; have := HI.out; omega
              case rel => exact ⟨i + 1, xs, err, row ++ [(⟨0, 0, (⟨#[]⟩ : ByteArray)⟩ : S43)], by rw [hwi], HI.out, HA', ⟨by simp; exact HRow.out⟩, HXs, HO7, ⟨HCp.out.low HB7.out (Nat.lt_of_lt_of_le HC.out.lt (Nat.le_refl _))⟩, ⟨HBp.out.trans (HB7.out.mono HB2.out.size)⟩, ⟨keep_low (HKr.out.trans HKp.out (.inl rfl)) HB7.out⟩⟩
          · simp only [if_true] at hA
            obtain ⟨E5, hE5⟩ : ∃ E5, failE err 60 = E5 := ⟨_, rfl⟩
            rw [hE5] at hA
            have HE5 := Aside0.mk hE5
            clear hE5
            go_wp2_with fail
            refine (fail_calls w.heap.size xs err 60 w _ HC3.out HB3.out).mono ?_
            rintro en W4 ⟨rfl, hC, hB4, hK⟩
            rw [HE5.out] at hC
            have HCp := Aside0.mk hC
            have HBp := Aside0.mk hB4
            have HKp := Aside0.mk ((KeepBut.of_below HLW.out w.heap.size none).trans hK (.inl rfl))
            have BVp := Aside0.mk (hK.blk BKv.out (by have := HG.out; omega) (by simp))
            clear hC hB4 hK
            obtain ⟨Ae, ce, he0, he1⟩ := HCp.out.cells
            have HOp := Aside0.mk (Kd.R_keep HO.out HKp.out (fun k h => h))
            have Hs2 := Aside0.mk (Nat.le_trans HKr.out.1 HKp.out.1)
            have HAL : Aside0 ((row.length + 1) * 32 ≤ 140737488355328) := ⟨by have := HRow.out; have := HL.out; have := HI.out; omega⟩
            by_cases hz : E5 ≠ 0
            · rw [if_pos hz] at hA
              obtain ⟨rfl, rfl⟩ := Prod.mk.inj hA
              have hzb : (E5 != 0) = true := bne_iff_ne.mpr hz
              clear hA hz
              go_wp2_with fail
              all_goals go_region
              all_goals go_wp2
              all_goals (go_ret2; exact ⟨_, rfl, Kd.R_nil _ _ _ _ _, by first | exact HBp.out | exact below_drew1 HBp.out | exact pw_below_drewN HBp.out _⟩)
            · rw [if_neg hz] at hA
              have hzb : (E5 != 0) = false := by simpa using hz
              have HA' := Aside0.mk hA
              have lv0 : W4.cell? ⟨wr.heap.size + 1, 0, none⟩ = some (.int .i64 0) := (blk_cell BVp.out 0).trans rfl
              have lv1 : W4.cell? ⟨wr.heap.size + 1, 1, none⟩ = some (.int .i64 0) := (blk_cell BVp.out 1).trans rfl
              have lv2 : W4.cell? ⟨wr.heap.size + 1, 2, none⟩ = some (.string (⟨#[]⟩ : ByteArray)) := (blk_cell BVp.out 2).trans rfl
              clear hA hz
              go_wp2_with (first | ((with_reducible refine gate_builtin (b := .append) (xs := #[.tmp 73, .tmp 75]) rfl ?_); at_builtin; refine Kd.R_append k43 (w0 := W4) w2.heap.size rfl (.tmp 73) (.tmp 75) 23 43 (.agg #[(.int .i64 0), (.int .i64 0), (.string ⟨#[]⟩)]) 32 rfl Try.underlying23 info43 rfl (by decide) (by omega) u9 row (⟨0, 0, (⟨#[]⟩ : ByteArray)⟩ : S43) [.int .i64 0, .int .i64 0, .string (⟨#[]⟩ : ByteArray)] (fun k => k ≠ w.heap.size) (fun _ => False) rfl rfl ?aP (fun _ hk => hk.elim) ?aF ?aO ?aB ?aS ?aL ?_; (case aP => exact k43_mkM _ _ _ (⟨0, 0, (⟨#[]⟩ : ByteArray)⟩ : S43)); (case aB => exact Below.refl _ _); (case aF => exact (fun k hk => Nat.ne_of_gt (Nat.lt_of_lt_of_le HCp.out.lt hk))); (case aO => exact HOp.out); (case aS => exact Hs2.out); (case aL => exact HAL.out); intro v79 w7 ho hb hg hat; have HO7 := Aside0.mk ho; have HB7 := Aside0.mk hb; clear ho hb hg hat))
              all_goals go_roundw
              case measure => rw [hwi]; simp only [intOf]; have := HI.out; omega
              case rel => exact ⟨i + 1, xs, E5, row ++ [(⟨0, 0, (⟨#[]⟩ : ByteArray)⟩ : S43)], by rw [hwi], HI.out, HA', ⟨by simp; exact HRow.out⟩, HXs, HO7, ⟨HCp.out.low HB7.out (Nat.lt_of_lt_of_le HC.out.lt (Nat.le_refl _))⟩, ⟨HBp.out.trans (HB7.out.mono HB2.out.size)⟩, ⟨keep_low (HKr.out.trans HKp.out (.inl rfl)) HB7.out⟩⟩
        · rw [hb1, if_pos rfl] at hA
          unfold bitC at hb1
          have HVX := Aside0.mk (bytes_val HXs.out err cf1)
          have T := value_calls w.heap.size xs err cf1 w W3 HXs.out HC3.out HB3.out
          obtain ⟨vr, hvr⟩ : ∃ vr, valR xs err cf1 = vr := ⟨_, rfl⟩
          rw [hvr] at hA T
          have HVX : Aside0 (∀ x ∈ vr.xs, 0 ≤ x ∧ x < 256) := ⟨by rw [← hvr]; exact HVX.out⟩
          have T' := Aside0.mk T
          clear T hvr
          obtain ⟨⟨va, vb, vs⟩, vx, ve⟩ := vr
          go_wp2_with fail
          refine T'.out.mono ?_
          rintro en W4 ⟨rfl, hC, hB4, hK⟩
          have hK' := (KeepBut.of_below HLW.out w.heap.size none).trans hK (.inl rfl)
          have hv4 := hK.blk BKv.out (by have := HG.out; omega) (by simp)
          obtain ⟨q1, q2, q3⟩ := fin43 va vb vs (gb := wr.heap.size + 1) (w := wr) (Nat.lt_succ_of_lt HG.out) (Nat.le_succ _) hC hB4 hK' (by have := HG.out; omega)
          have HCp := Aside0.mk q1
          have HBp := Aside0.mk q2
          have HKp := Aside0.mk q3
          have BVp := Aside0.mk (put_blk va vb vs hv4)
          have m0 : W4.cell? ⟨wr.heap.size + 1, 0, none⟩ = some (.int .i64 0) := (blk_cell hv4 0).trans rfl
          have m1 : W4.cell? ⟨wr.heap.size + 1, 1, none⟩ = some (.int .i64 0) := (blk_cell hv4 1).trans rfl
          have m2 : W4.cell? ⟨wr.heap.size + 1, 2, none⟩ = some (.string (⟨#[]⟩ : ByteArray)) := (blk_cell hv4 2).trans rfl
          have n0 := blk_frozen hv4 0
          have n1 := blk_frozen hv4 1
          have n2 := blk_frozen hv4 2
          obtain ⟨W5, hW5⟩ : ∃ W5, put43 W4 (wr.heap.size + 1) va vb vs = W5 := ⟨_, rfl⟩
          rw [hW5] at HCp HBp HKp BVp
          clear q1 q2 q3 hC hB4 hK hK' hv4
          obtain ⟨Ae, ce, he0, he1⟩ := HCp.out.cells
          have HOp := Aside0.mk (Kd.R_keep HO.out HKp.out (fun k h => h))
          have Hs2 := Aside0.mk (Nat.le_trans HKr.out.1 HKp.out.1)
          have HAL : Aside0 ((row.length + 1) * 32 ≤ 140737488355328) := ⟨by have := HRow.out; have := HL.out; have := HI.out; omega⟩
          by_cases hz : ve ≠ 0
          · rw [if_pos hz] at hA
            obtain ⟨rfl, rfl⟩ := Prod.mk.inj hA
            have hzb : (ve != 0) = true := bne_iff_ne.mpr hz
            clear hA hz
            go_wp2_with fail
            all_goals go_region
            all_goals go_wp2
            all_goals (go_ret2; exact ⟨_, rfl, Kd.R_nil _ _ _ _ _, by first | exact HBp.out | exact below_drew1 HBp.out | exact pw_below_drewN HBp.out _⟩)
          · rw [if_neg hz] at hA
            have hzb : (ve != 0) = false := by simpa using hz
            have HA' := Aside0.mk hA
            have lv0 : W5.cell? ⟨wr.heap.size + 1, 0, none⟩ = some (.int .i64 va) := (blk_cell BVp.out 0).trans rfl
            have lv1 : W5.cell? ⟨wr.heap.size + 1, 1, none⟩ = some (.int .i64 vb) := (blk_cell BVp.out 1).trans rfl
            have lv2 : W5.cell? ⟨wr.heap.size + 1, 2, none⟩ = some (.string vs) := (blk_cell BVp.out 2).trans rfl
            clear hA hz
            go_wp2_with (first | ((with_reducible refine gate_builtin (b := .append) (xs := #[.tmp 73, .tmp 75]) rfl ?_); at_builtin; refine Kd.R_append k43 (w0 := W5) w2.heap.size rfl (.tmp 73) (.tmp 75) 23 43 (.agg #[(.int .i64 0), (.int .i64 0), (.string ⟨#[]⟩)]) 32 rfl Try.underlying23 info43 rfl (by decide) (by omega) u9 row (⟨va, vb, vs⟩ : S43) [.int .i64 va, .int .i64 vb, .string vs] (fun k => k ≠ w.heap.size) (fun _ => False) rfl rfl ?aP (fun _ hk => hk.elim) ?aF ?aO ?aB ?aS ?aL ?_; (case aP => exact k43_mkM _ _ _ (⟨va, vb, vs⟩ : S43)); (case aB => exact Below.refl _ _); (case aF => exact (fun k hk => Nat.ne_of_gt (Nat.lt_of_lt_of_le HCp.out.lt hk))); (case aO => exact HOp.out); (case aS => exact Hs2.out); (case aL => exact HAL.out); intro v79 w7 ho hb hg hat; have HO7 := Aside0.mk ho; have HB7 := Aside0.mk hb; clear ho hb hg hat))
            all_goals go_roundw
            case measure => rw [hwi]; simp only [intOf]; have := HI.out; omega
            case rel => exact ⟨i + 1, vx, ve, row ++ [(⟨va, vb, vs⟩ : S43)], by rw [hwi], HI.out, HA', ⟨by simp; exact HRow.out⟩, HVX, HO7, ⟨HCp.out.low HB7.out (Nat.lt_of_lt_of_le HC.out.lt (Nat.le_refl _))⟩, ⟨HBp.out.trans (HB7.out.mono HB2.out.size)⟩, ⟨keep_low (HKr.out.trans HKp.out (.inl rfl)) HB7.out⟩⟩
      · obtain rfl : i = l0.length := by omega
        have c1 : decide (((l0.length : Nat) : Int) < (l0.length : Int)) = false := decide_eq_false (by omega)
        have hA := HA.out
        rw [List.drop_length] at hA
        unfold decGo at hA
        obtain ⟨Ac, cc, hcc0, hcc1⟩ := HCr.out.cells
        by_cases hx0 : xs.length > 0
        · rw [if_pos hx0] at hA
          have cx : decide (0 < xs.length) = true := decide_eq_true hx0
          have cx1 : (0 < xs.length) = True := eq_true hx0
          obtain ⟨E2, hE2⟩ : ∃ E2, failE err 4 = E2 := ⟨_, rfl⟩
          rw [hE2] at hA
          have HE2 := Aside0.mk hE2
          clear hE2
          by_cases he : E2 ≠ 0
          · rw [if_pos he] at hA
            obtain ⟨rfl, rfl⟩ := Prod.mk.inj hA
            have ce : (E2 != 0) = true := bne_iff_ne.mpr he
            clear hA hx0 he
            go_wp2_with fail
            refine (fail_calls w.heap.size xs err 4 w _ HCr.out HBr.out).mono ?_
            rintro en w4 ⟨rfl, hC, hB4, hK⟩
            rw [HE2.out] at hC
            obtain ⟨Ad, cd, hd0, hd1⟩ := hC.cells
            have HB4 := Aside0.mk hB4
            clear hC hB4 hK
            go_wp2_with fail
            all_goals go_region
            all_goals go_wp2
            all_goals (go_ret2; exact ⟨_, rfl, Kd.R_nil _ _ _ _ _, by first | exact HB4.out | exact below_drew1 HB4.out | exact pw_below_drewN HB4.out _⟩)
          · rw [if_neg he] at hA
            obtain ⟨rfl, rfl⟩ := Prod.mk.inj hA
            have ce : (E2 != 0) = false := by simpa using he
            clear hA hx0 he
            go_wp2_with fail
            refine (fail_calls w.heap.size xs err 4 w _ HCr.out HBr.out).mono ?_
            rintro en w4 ⟨rfl, hC, hB4, hK⟩
            rw [HE2.out] at hC
            obtain ⟨Ad, cd, hd0, hd1⟩ := hC.cells
            have HB4 := Aside0.mk hB4
            have HO4 := Aside0.mk (Kd.R_keep HO.out hK (fun k h => h))
            clear hC hB4 hK
            go_wp2_with fail
            all_goals (go_ret2; exact ⟨_, rfl, Kd.R_mono (Kd.R_lower HO4.out (Nat.le_trans HB2.out.size (Nat.le_refl _))) (fun _ _ => trivial), HB4.out⟩)
        · rw [if_neg hx0] at hA
          have cx : decide (0 < xs.length) = false := decide_eq_false hx0
          have cx1 : (0 < xs.length) = False := eq_false hx0
          by_cases he : err ≠ 0
          · rw [if_pos he] at hA
            obtain ⟨rfl, rfl⟩ := Prod.mk.inj hA
            have ce : (err != 0) = true := bne_iff_ne.mpr he
            clear hA hx0 he
            go_wp2_with fail
            all_goals go_region
            all_goals go_wp2
            all_goals (go_ret2; exact ⟨_, rfl, Kd.R_nil _ _ _ _ _, by first | exact HBr.out | exact below_drew1 HBr.out | exact pw_below_drewN HBr.out _⟩)
          · rw [if_neg he] at hA
            obtain ⟨rfl, rfl⟩ := Prod.mk.inj hA
            have ce : (err != 0) = false := by simpa using he
            clear hA hx0 he
            go_wp2_with fail
            all_goals (go_ret2; exact ⟨_, rfl, Kd.R_mono (Kd.R_lower HO.out (Nat.le_trans HB2.out.size (Nat.le_refl _))) (fun _ _ => trivial), HBr.out⟩)
  have KEY := Aside0.mk key
  clear key hK1
  by_cases hk8 : (l0.length : Int) % 8 > 0
  · have hm1 : 0 < m := by have := HM.out; omega
    obtain ⟨ad, rfl, hcell⟩ := byte_at (HR.out w2 (KeepBut.refl _ _ _)) (m - 1) (by omega)
    have hw1 : wrap64 ((m : Int) - 1) = ((m - 1 : Nat) : Int) := by rw [IntWalk.wrap64_in _ (by have := HM.out; have := HL.out; omega)]; omega
    have hmax : max (m : Int) 0 = (m : Int) := by omega
    have ck : decide ((l0.length : Int) % 8 > 0) = true := decide_eq_true hk8
    have HF := HE1.out
    unfold padE at HF
    rw [ck, Bool.true_and] at HF
    clear hk8
    cases hp : (NL[m - 1]?.getD 0 / 2 ^ (l0.length % 8) != 0)
    · rw [hp, if_neg (by decide)] at HF
      have HF := Aside0.mk HF
      go_wp2_with fail
      exact KEY.out _ _ _ _ _ _ _ _ _ _ _ _ _ _ _ _ _ _ _ _ ⟨by rw [← HF.out]; exact HC.out⟩ HB2 ⟨KeepBut.refl _ _ _⟩
    · rw [hp, if_pos rfl] at HF
      have HF := Aside0.mk HF
      go_wp2_with fail
      refine (fail_calls w.heap.size X0 E0 2 w _ HC.out HB2.out).mono ?_
      rintro en w3 ⟨rfl, hC, hB3, hK⟩
      have HC3 := Aside0.mk hC
      have HB3 := Aside0.mk hB3
      have HK3 := Aside0.mk hK
      clear hC hB3 hK
      go_wp2_with fail
      exact KEY.out _ _ _ _ _ _ _ _ _ _ _ _ _ _ _ _ _ _ _ _ ⟨by rw [← HF.out]; exact HC3.out⟩ HB3 HK3
  · have ck : decide ((l0.length : Int) % 8 > 0) = false := decide_eq_false hk8
    have HF := HE1.out
    unfold padE at HF
    rw [ck, Bool.false_and, if_neg (by decide)] at HF
    have HF := Aside0.mk HF
    clear hk8
    go_wp2_with fail
    exact KEY.out _ _ _ _ _ _ _ _ _ _ _ _ _ _ _ _ _ _ _ _ ⟨by rw [← HF.out]; exact HC.out⟩ HB2 ⟨KeepBut.refl _ _ _⟩
end Go.Proofs.Ytnjobnkkpfaigaa
