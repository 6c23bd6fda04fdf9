import Derived.Test.YtgbjilcfgpbcgaaZpH12
/- Layer 8: Pages, the walk. -/
namespace Go.Proofs.Ytgbjilcfgpbcgaa
open Go.RowKit Go.Proofs.YtgbjilcfgpbcgaaW.PrintWords Go.Proofs.YtgbjilcfgpbcgaaW.PrintLast Go.Proofs.YtgbjilcfgpbcgaaW.PrintMore
set_option linter.unusedSimpArgs false
set_option linter.unusedVariables false
theorem und22 : Try.prog.underlying 22 = some (.slice 3) := Try.underlying22
set_option maxHeartbeats 4000000 in
theorem pages_calls {base : Nat} {O : Nat → Prop} {w : World} {hb : Nat} {S : St} {N : Int} (h : HeapAt base O w hb S) (hI : Inv N S) (hN : N ≤ 4000000000000) : Calls Try.prog 13 #[.pointer (some ⟨hb, 0, none⟩)] w fun e w' => ∃ v, e = .returned v ∧ ki.R 3 w' w.heap.size (fun _ => True) v (pagesP S) ∧ Below w.heap.size w w' := by
  obtain ⟨mb, vi, vf, cb, rv, h⟩ := h
  have c0 : w.cell? ⟨hb, 0, none⟩ = some (.map (some mb)) := (blk_cell h.blk 0).trans rfl
  have c3 : w.cell? ⟨hb, 3, none⟩ = some (.int .i64 S.edge) := (blk_cell h.blk 3).trans rfl
  have e1 : S.edge ≤ 4000000000000 := by have := hI.bd; omega
  have e0 : 0 ≤ S.edge := by have := hI.cnt; omega
  obtain ⟨ed, hed⟩ : ∃ ed, S.edge = ed := ⟨_, rfl⟩
  have HH := Aside0.mk h
  have HI := Aside0.mk hI
  have HE := Aside0.mk hed
  rw [hed] at c3 e0 e1
  have w1 : IntKind.i64.wrap (ed + 16) = ed + 16 := by rw [IntKind.wrap_i64]; omega
  have w2 : IntKind.i64.wrap (ed + 16 - 1) = ed + 15 := by rw [IntKind.wrap_i64]; omega
  obtain ⟨np, hnp⟩ : ∃ np : Nat, ((ed + 15) / 16).toNat = np := ⟨_, rfl⟩
  have hnp2 : (ed + 15) / 16 = (np : Int) := by omega
  have HNP := Aside0.mk hnp
  have hnp4 : (np : Int) ≤ 4000000000000 := by omega
  have HNP4 := Aside0.mk hnp4
  obtain ⟨D, hD, hsz, hm⟩ := h.map
  have HM := Aside0.mk hm
  have HD := Aside0.mk hD
  have HBLK := Aside0.mk h.blk
  clear h hI hN hed hnp hnp4 hsz hm hD
  go_enter Try.func13, Try.ntmps13
  go_wp2_with (first | ((with_reducible refine gate_dst (N := 13) rfl ?_); refine Kd.R_make ki (w0 := w) w.heap.size 3 rfl rfl 22 (.tmp 12) (.tmp 12) rfl _ rfl rfl und22 (.int .i64 0) 8 info3' rfl (by decide) (by decide) (0 : Int) (ok := fun _ => True) (okp := fun _ => True) ?mz (fun _ hk => hk) trivial ?m0 ?ml (Below.refl _ _) (Nat.le_refl _) ?_; (case mz => exact rfl); (case m0 => omega); (case ml => omega); intro v1 wm hr hB hg hown; rw [HNP.out] at hr; have HB1 := Aside0.mk hB; have HR1 := Aside0.mk hr; have hD1 := HD.out.kept hg (by simp); obtain ⟨A1, cp1, ev⟩ := Kd.R_slice hr; rw [List.length_replicate] at ev; subst ev; have HW1 := Aside0.mk hown; have k0 : wm.cell? ⟨hb, 0, none⟩ = some (.map (some mb)) := (blk_cell ((hB.block hb (blk_lt HBLK.out)).trans HBLK.out) 0).trans rfl; clear hr hB hg hown c0 c3) | (at_range; refine wpList_range_own _ rfl _ 55 rfl 3 59 keyedI und55 hvR mb S.ents.length D rfl hD1 ?_; intro w0 hrg0 hg0 hs0))
  obtain ⟨g, rfl, hgw⟩ : ∃ g, A1 = some ⟨g, 0, none⟩ ∧ w.heap.size ≤ g := by
    obtain ⟨b, hb1, hb2⟩ := HW1.out
    have hr := HR1.out
    rcases row_of hr with ⟨e, _⟩ | ⟨g, cap, cur, e, h1, h2, h3, _⟩
    · injection e with e; subst e; simp [Value.ownBlock] at hb1
    · injection e with e; subst e
      have : g = b := by simpa [Value.ownBlock] using hb1
      exact ⟨g, rfl, by omega⟩
  obtain ⟨r, hr⟩ : ∃ r, wm.heap.size = r := ⟨_, rfl⟩
  have hrw : w.heap.size ≤ r := by rw [← hr]; exact HB1.out.size
  have HRW := Aside0.mk hrw
  have HGW := Aside0.mk hgw
  have HB2 : Aside0 (Below w.heap.size w w0) := ⟨HB1.out.trans ((below_grown_none hg0).mono HB1.out.size)⟩
  have HR2 : Aside0 (ki.R 3 w0 w.heap.size (fun _ => True) (.slice (some ⟨g, 0, none⟩) np cp1) (metL S.ents np (Maps.has D))) := ⟨by
    rw [metL_start S.ents np _ (has_left HM.out)]
    exact Kd.R_grown2 HR1.out rfl hg0 (fun k hk => by cases hk)⟩
  rw [hr] at hrg0
  have HRG := Aside0.mk hrg0
  have hgr : g < r := by
    rw [← hr]
    rcases row_of HR1.out with ⟨e, _⟩ | ⟨g', cap, cur, e, h1, h2, h3, _⟩
    · cases e
    · injection e with e; injection e with e; injection e with e; subst e; exact blk_lt h3
  rw [hr]
  clear hrg0 hg0 hs0 hgw hrw k0 hD1 HW1 HR1 HB1 hr
  go_frame
  go_loopw [5] (fun _ wr => ∃ (left : Lit → Bool) (cnt : Nat), Aside0 (wr.ranges Try.prog 3 hvR mb r S.ents.length D left cnt) ∧ Aside0 (ki.R 3 wr w.heap.size (fun _ => True) (.slice (some ⟨g, 0, none⟩) np cp1) (metL S.ents np left)) ∧ Aside0 (Below w.heap.size w wr))
    (fun _ wr => wr.rangeLeft mb r)
  case atStart => exact ⟨_, _, HRG, HR2, HB2⟩
  case round =>
    clear HRG HR2 HB2
    obtain ⟨left, cnt, HG, HR, HB⟩ := hrel
    have hrg := HG.out
    go_wp2_with (first | (at_next; refine wpList_next_ranges _ rfl _ rfl 3 keyedI hvR id id (fun key _ _ => ⟨key, rfl⟩) (fun v _ _ => ⟨v, rfl⟩) mb r S.ents.length _ _ _ rfl hrg ?_ ?_))
    · intro hc0 hl0
      go_wp2
      go_ret
      have hend := metL_end S left hl0
      rw [show pagesN S = np by rw [← HNP.out, ← HE.out]] at hend
      rw [← hend]
      exact ⟨_, rfl, HR.out, HB.out⟩
    · intro x c kl yd yp w1 cnt1 hkey hlx hv hat hrg1 hlt hg1 hs1 hen
      try dsimp only [id] at hen
      try dsimp only [id] at hv
      try dsimp only [id] at hkey
      try dsimp only [id]
      have hyd : yd = .held c := (congrArg Prod.fst (Option.some.inj hv)).symm
      subst hyd
      obtain ⟨e, he, rfl, rfl⟩ := met_mem HM.out (keyedI.key hkey) (c := c) (fun zd => hat zd)
      have hB1 : Below w.heap.size w w1 := HB.out.trans ⟨hg1.os, hg1.tape, hg1.output, hg1.size, fun k hk => hg1.block k (Nat.lt_of_lt_of_le hk HB.out.size) (fun h => by
        injection h with h
        have := HRW.out
        omega)⟩
      have hcl := HH.out.cell e he
      have r1 : w1.cell? ⟨cb e.id, 1, none⟩ = some (.int .i64 e.slot) := (blk_cell ((hB1.block _ (blk_lt hcl.1)).trans hcl.1) 1).trans rfl
      have hR1 := Kd.R_grown2 HR.out rfl hg1 (fun k hk => by
        injection hk with hk
        intro h
        have : k = g := by simpa [Value.ownBlock] using h
        omega)
      have hsl := HI.out.sl e he
      rw [HE.out] at hsl
      have hs0 : 0 ≤ e.slot := hsl.1
      have hs4 : e.slot ≤ 4000000000000 := by omega
      obtain ⟨i, hi⟩ : ∃ i : Nat, e.slot / 16 = (i : Int) := ⟨(e.slot / 16).toNat, by omega⟩
      have hin : i < np := by omega
      have j0 : (0 : Int) ≤ (i : Int) := by omega
      have j1 : (i : Int) < (np : Int) := by omega
      obtain ⟨y0, y1⟩ := Kd.R_celln 0 hR1 (i : Int) j0 j1
      have hrd : rdOf 0 (metL S.ents np left) (i : Int) = metAt S.ents left i := by
        simp [rdOf, metL, hin]
      rw [hrd] at y0
      have hm0 : 0 ≤ metAt S.ents left i := by unfold metAt; omega
      have hm4 : metAt S.ents left i ≤ 4000000000000 := by
        have h1 : S.ents.countP (fun e => decide (e.slot / 16 = (i : Int)) && !left (keyI e.id)) ≤ S.ents.length := List.countP_le_length
        have h2 := HI.out.cnt
        have h3 := HE.out
        unfold metAt; omega
      have hst := metL_step (HI.out.ids.imp fun h => Int.ne_of_lt h) he np left hlx hs0 i hi
      obtain ⟨hR2, hg2⟩ := Kd.R_putg hR1 (i : Int) (metAt S.ents left i + 1)
      rw [Int.toNat_natCast] at y0 y1 hR2 hg2
      rw [← hst] at hR2
      obtain ⟨mt, hmt⟩ : ∃ mt, metAt S.ents left i = mt := ⟨_, rfl⟩
      obtain ⟨s, hs⟩ : ∃ s, e.slot = s := ⟨_, rfl⟩
      obtain ⟨p, hp⟩ : ∃ p, cb e.id = p := ⟨_, rfl⟩
      rw [hmt] at y0 hR2 hg2 hm0 hm4
      rw [hs] at r1 hs0 hs4 hi
      rw [hp] at r1 hen
      rw [hp]
      have HR2 := Aside0.mk hR2
      have HG2 := Aside0.mk hg2
      have HRG1 := Aside0.mk hrg1
      have HB1 := Aside0.mk hB1
      have HS1 := Aside0.mk hs1
      have HLT := Aside0.mk hlt
      have hgb : g ≠ mb := fun h => by
        rcases row_of hR1 with ⟨e, _⟩ | ⟨g', cap, cur, e, h1, h2, h3, _⟩
        · cases e
        · injection e with e; injection e with e; injection e with e; subst e
          obtain ⟨D', ⟨es, clock, hm, _⟩, _⟩ := HH.out.map
          have := (hB1.block mb (Array.getElem?_eq_some_iff.1 hm).1).trans hm
          rw [← h, h3] at this; cases this
      clear hR2 hg2 hrg1 hB1 hs1 hg1 hlt hkey hlx hv hat hR1 hsl hin hrd hst hmt hs hp hcl he hrg HR HB
      go_wp2
      have HRG2 := HRG1.out.kept HG2.out (fun h => hgb (Option.some.inj h).symm) (fun h => by have := Option.some.inj h; omega)
      go_roundw
      case rel => exact ⟨_, _, ⟨HRG2⟩, HR2, ⟨HB1.out.setCell HGW.out _⟩⟩
      case measure => rw [HRG2.left_eq, HG.out.left_eq]; exact HLT.out
end Go.Proofs.Ytgbjilcfgpbcgaa
