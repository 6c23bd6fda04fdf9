import Derived.Test.YtfnmploaklboiaaZsD1
/- Layer 22: CoverStronger, walked where the plan is covered. -/
namespace Go.Proofs.Ytfnmploaklboiaa
open Go.RowKit Go.Proofs.YtfnmploaklboiaaW.PrintWords Go.Proofs.YtfnmploaklboiaaW.PrintLast Go.Proofs.YtfnmploaklboiaaW.PrintMore A V
set_option linter.unusedSimpArgs false
set_option linter.unusedVariables false
theorem speaks_ok : hasplaw22_speaks.f = some true := by decide +kernel
theorem check_ok (w : World) (t : ByteArray) (A : Option Addr) (l : List S33) (c : Nat) (hC : Kd.C k33 w A l.length l) (hcap : l.length ≤ c) (hlen : l.length ≤ 100000000000000) (hts : t.size ≤ maxLen)
    (hs : ∀ x ∈ l, x.f5.size ≤ maxLen ∧ -9223372036854775808 ≤ x.f1 ∧ x.f1 < 9223372036854775808) (hck : ckB t l = true) :
    Calls Try.prog 8 #[.agg #[.string t, .slice A l.length c]] w fun e w' => e = .returned (.int .i64 0) ∧ Below w.heap.size w w' := by
  have h := check_calls w t A l c hC hcap hlen hts hs
  rw [hck] at h
  exact h
theorem ckB_len {t : ByteArray} {l : List S33} (h : ckB t l = true) : l.length ≤ 4096 := by
  unfold ckB shapeB at h
  simp at h
  omega
set_option maxHeartbeats 8000000 in
set_option maxRecDepth 100000 in
theorem stronger_calls (w : World) (t : ByteArray) (A : Option Addr) (l : List S33) (c : Nat) (tab : ByteArray) (mode : Int) (hC : Kd.C k33 w A l.length l) (hcap : l.length ≤ c) (hlen : l.length ≤ 100000000000000) (hts : t.size ≤ maxLen)
    (hs : ∀ x ∈ l, x.f5.size ≤ maxLen ∧ -9223372036854775808 ≤ x.f1 ∧ x.f1 < 9223372036854775808) (hck : ckB t l = true) (hX : ckB t (l.map toX) = true)
    (htab : tab.size ≤ maxLen) (hW : l.length + 1 ≤ 4096 → ckB t (lockI tab (wrap64 (1 + bits .and .i64 mode 3)) :: l.map bump) = true) :
    Calls Try.prog 5 #[.agg #[.string t, .slice A l.length c], .string tab, .int .i64 mode] w fun e w' => e = .returned (.bool true) ∧ Below w.heap.size w w' := by
  have HC := Aside0.mk hC
  have HCAP := Aside0.mk hcap
  have HL := Aside0.mk hlen
  have HT := Aside0.mk hts
  have HS := Aside0.mk hs
  have HCK := Aside0.mk hck
  have HX := Aside0.mk hX
  have H4 := Aside0.mk (ckB_len hck)
  have HTAB := Aside0.mk htab
  have HW := Aside0.mk hW
  clear hC hcap hlen hts hs hck hX htab hW
  go_enter Try.func5, Try.ntmps5
  go_upto_region 1 with (fail)
  have hgp := heap_alloc_new w (.cells #[.string t, .slice A l.length c] 25)
  have hb0 := Below.alloc (Below.refl w.heap.size w) (Nat.le_refl _) (.cells #[.string t, .slice A l.length c] 25)
  obtain ⟨gp, hgpe⟩ : ∃ gp, w.heap.size = gp := ⟨_, rfl⟩
  generalize w.alloc (.cells #[.string t, .slice A l.length c] 25) = W0 at hgp hb0 ⊢
  have HGP := Aside0.mk hgp
  have HB0 := Aside0.mk hb0
  clear hgp hb0
  rw [hgpe]
  go_upto_region 6 with (first
    | (go_at_call 7; (with_reducible refine (hasplaw22_speaks.calls true _ speaks_ok).mono ?_); rintro e w2 ⟨rfl, hb⟩; have HB1 := Aside0.mk (below_step HB0.out hb); have HGP1 := Aside0.mk ((hb.block w.heap.size (blk_lt HGP.out)).trans HGP.out); clear HB0 HGP hb; rw [hgpe] at HGP1; have c0 : w2.cell? ⟨gp, 0, none⟩ = some (.string t) := (blk_cell HGP1.out 0).trans rfl; have c1 : w2.cell? ⟨gp, 1, none⟩ = some (.slice A l.length c) := (blk_cell HGP1.out 1).trans rfl)
    | (go_at_call 8; (with_reducible refine (check_ok _ t A l c (Kd.C_below HC.out HB1.out) HCAP.out HL.out HT.out HS.out HCK.out).mono ?_); rintro e w3 ⟨rfl, hb⟩; have HB2 := Aside0.mk (below_step HB1.out hb); have HGP2 := Aside0.mk ((hb.block gp (blk_lt HGP1.out)).trans HGP1.out); clear c0 c1 HB1 HGP1 hb; have c0 : w3.cell? ⟨gp, 0, none⟩ = some (.string t) := (blk_cell HGP2.out 0).trans rfl; have c1 : w3.cell? ⟨gp, 1, none⟩ = some (.slice A l.length c) := (blk_cell HGP2.out 1).trans rfl))
  have hv : Cv w (w3.alloc (.cells #[.string t, .slice none 0 0] 25)) gp w3.heap.size t A l.length c [] :=
    ⟨.slice none 0 0, blk_alloc HGP2.out _, heap_alloc_new w3 _, Kd.R_nil _ _ _ _ _, below_alloc HB2.out _⟩
  have hne : gp ≠ w3.heap.size := by have := blk_lt HGP2.out; omega
  obtain ⟨gq, hgq⟩ : ∃ gq, w3.heap.size = gq := ⟨_, rfl⟩
  rw [hgq] at hv hne
  rw [hgq]
  have HGQ : Aside0 (gp ≠ gq ∧ w.heap.size ≤ gq) := ⟨hne, by have := HB2.out.size; omega⟩
  clear c0 c1 HB2 HGP2 hne
  generalize w3.alloc (.cells #[.string t, .slice none 0 0] 25) = W4 at hv ⊢
  have c0 : W4.cell? ⟨gp, 0, none⟩ = some (.string t) := by obtain ⟨v, h1, _⟩ := hv; exact (blk_cell h1 0).trans rfl
  have c1 : W4.cell? ⟨gp, 1, none⟩ = some (.slice A l.length c) := by obtain ⟨v, h1, _⟩ := hv; exact (blk_cell h1 1).trans rfl
  have HV := Aside0.mk hv
  clear hv hgq
  go_wp2
  clear c0 c1
  go_loopg [24] l.length (fun kq v24 w' => ∃ (i : Int), v24 = .int .i64 i ∧ Aside0 (0 ≤ i ∧ i ≤ l.length ∧ (kq : Int) = l.length - i) ∧ Aside0 (Cv w w' gp gq t A l.length c ((l.take i.toNat).map toX)))
  case atStart => exact ⟨0, rfl, ⟨by omega, by omega, by omega⟩, HV⟩
  case round =>
    clear HV
    obtain ⟨i, rfl, HI, HV⟩ := hrel
    obtain ⟨h0, h1, h2⟩ := HI.out
    by_cases hlt : i < l.length
    · have hBw : Below w.heap.size w wr := by obtain ⟨v, _, _, _, h⟩ := HV.out; exact h
      obtain ⟨ad, A7, A8, A11, A13, c7, c8, c11, c13, e, x0, x1, x2, x3, x4, x5, x6, x7, x8, x9, x10, x11, x12, x13, hk⟩ := elem_full HC.out hBw i h0 hlt
      cases e
      have q0 := eq_true h0
      have q1 := eq_true hlt
      have b1 : decide (i < (l.length : Int)) = true := decide_eq_true hlt
      have hsn := take_snoc33 l i h0 hlt
      obtain ⟨y, hy⟩ : ∃ y, rd_T33 l i = y := ⟨_, rfl⟩
      rw [hy] at x0 x1 x2 x3 x4 x5 x6 x7 x8 x9 x10 x11 x12 x13 hsn hk
      have hi63 : i ≤ 4096 := by have := H4.out; omega
      have HSN := Aside0.mk hsn
      have HK := Aside0.mk hk
      have hnew := Below.alloc (Below.refl wr.heap.size wr) (Nat.le_refl _) (.cells (iv y A7 A8 A11 A13 c7 c8 c11 c13) 33)
      have hbx := heap_alloc_new wr (.cells (iv y A7 A8 A11 A13 c7 c8 c11 c13) 33)
      have HN := Aside0.mk hnew
      have HXB := Aside0.mk hbx
      clear h1 h2 hy hsn hnew hbx hBw hk
      go_upto_region 9 with (fail)
      clear x0 x1 x2 x3 x4 x5 x6 x7 x8 x9 x10 x11 x12 x13
      obtain ⟨gx, hgx⟩ : ∃ gx, wr.heap.size = gx := ⟨_, rfl⟩
      generalize wr.alloc (.cells (iv y A7 A8 A11 A13 c7 c8 c11 c13) 33) = W1 at HN HXB ⊢
      rw [hgx] at HXB
      rw [hgx]
      have HGX := Aside0.mk hgx
      clear hgx
      have y0 : W1.cell? ⟨gx, 0, none⟩ = some (.int .i64 y.f0) := (blk_cell HXB.out 0).trans rfl
      obtain ⟨bb, hbb⟩ : ∃ bb, (y.f0 == 1 || y.f0 == 3) = bb := ⟨_, rfl⟩
      have HBB := Aside0.mk hbb
      clear hbb
      go_cut [35] (fun v35 wc => v35 = .bool bb ∧ wc = W1)
      case first =>
        by_cases e1 : y.f0 = 1
        · have t1 : (y.f0 == 1) = true := beq_iff_eq.2 e1
          have e : bb = true := by rw [← HBB.out, t1]; rfl
          subst e
          clear e1
          go_wp2
          go_meet
          case rel => exact ⟨rfl, rfl⟩
        · have t1 : (y.f0 == 1) = false := beq_eq_false_iff_ne.2 e1
          obtain ⟨b3, hb3⟩ : ∃ b3, (y.f0 == 3) = b3 := ⟨_, rfl⟩
          have e : bb = b3 := by rw [← HBB.out, t1, hb3]; rfl
          subst e
          clear e1
          go_wp2
          go_meet
          case rel => exact ⟨rfl, rfl⟩
      case rest =>
        obtain ⟨rfl, rfl⟩ := hcut
        clear y0
        go_upto_if 35 with (fail)
        go_cut [] (fun W2 => Aside0 (W2.heap[gx]? = some (.cells (iv (toX y) A7 A8 A11 A13 c7 c8 c11 c13) 33 (0, 0))) ∧ Aside0 (Below wr.heap.size wr W2))
        case first =>
          cases bb
          · have he : toX y = y := if_neg (fun h => by have := HBB.out; simp at this; omega)
            have HS4 := HXB
            rw [← he] at HS4
            clear he
            go_wp2
            go_meet
            case rel => exact ⟨HS4, HN⟩
          · have he : toX y = { y with f3 := 6, f4 := 6 } := if_pos (by have := HBB.out; simpa using this)
            have y3 : wc.cell? ⟨gx, 3, none⟩ = some (.int .i64 y.f3) := (blk_cell HXB.out 3).trans rfl
            have z3 : wc.frozen? ⟨gx, 3, none⟩ = false := frozen_of_row wc gx 3 _ 33 HXB.out
            have hs3 := heap_setCell_same wc gx 3 _ 33 (.int .i64 6) HXB.out
            have y4 : (wc.setCell ⟨gx, 3, none⟩ (.int .i64 6)).cell? ⟨gx, 4, none⟩ = some (.int .i64 y.f4) := (blk_cell hs3 4).trans rfl
            have z4 : (wc.setCell ⟨gx, 3, none⟩ (.int .i64 6)).frozen? ⟨gx, 4, none⟩ = false := frozen_of_row _ gx 4 _ 33 hs3
            have hs4 : ((wc.setCell ⟨gx, 3, none⟩ (.int .i64 6)).setCell ⟨gx, 4, none⟩ (.int .i64 6)).heap[gx]? = some (.cells (iv (toX y) A7 A8 A11 A13 c7 c8 c11 c13) 33 (0, 0)) := by
              rw [he]; exact (heap_setCell_same _ gx 4 _ 33 (.int .i64 6) hs3).trans rfl
            have hn4 : Below wr.heap.size wr ((wc.setCell ⟨gx, 3, none⟩ (.int .i64 6)).setCell ⟨gx, 4, none⟩ (.int .i64 6)) := (HN.out.setCell (Nat.le_of_eq HGX.out) _).setCell (Nat.le_of_eq HGX.out) _
            have HS4 := Aside0.mk hs4
            have HN4 := Aside0.mk hn4
            clear he hs3 hs4 hn4
            go_wp2
            go_meet
            case rel => exact ⟨HS4, HN4⟩
        case rest =>
          obtain ⟨HS4, HN4⟩ := hcut
          generalize wc = W2 at HS4 HN4 ⊢
          obtain ⟨v, g1, g2, g3, g4⟩ := HV.out.keep HN4.out
          obtain ⟨Aq, cq, e, -, -⟩ := Cv.reads g3 g4
          subst e
          have p1 : W2.cell? ⟨gq, 1, none⟩ = some (.slice Aq (List.map toX (List.take i.toNat l)).length cq) := (blk_cell g2 1).trans rfl
          obtain ⟨n, hn⟩ : ∃ n, (List.map toX (List.take i.toNat l)).length = n := ⟨_, rfl⟩
          have HN4' : Aside0 (n ≤ 4096) := ⟨by have := H4.out; rw [← hn, List.length_map, List.length_take]; omega⟩
          rw [hn] at p1 g2 g3
          have HGG := Aside0.mk (And.intro g1 (And.intro g2 (And.intro g3 g4)))
          have HNN := Aside0.mk hn
          clear g1 g2 g3 g4 hn
          obtain ⟨z, hz⟩ : ∃ z, toX y = z := ⟨_, rfl⟩
          have HKZ : Aside0 (k33.K w z (iv z A7 A8 A11 A13 c7 c8 c11 c13).toList) := ⟨HK.out z (by rw [← hz]; unfold toX; split <;> rfl) (by rw [← hz]; unfold toX; split <;> rfl) (by rw [← hz]; unfold toX; split <;> rfl) (by rw [← hz]; unfold toX; split <;> rfl)⟩
          have HSN2 : Aside0 ((l.take (i.toNat + 1)).map toX = (l.take i.toNat).map toX ++ [z]) := ⟨by rw [HSN.out, List.map_append, ← hz]; rfl⟩
          rw [hz] at HS4
          clear hz HSN HK
          have d0 : W2.cell? ⟨gx, 0, none⟩ = some (.int .i64 z.f0) := (blk_cell HS4.out 0).trans rfl
          have d1 : W2.cell? ⟨gx, 1, none⟩ = some (.int .i64 z.f1) := (blk_cell HS4.out 1).trans rfl
          have d2 : W2.cell? ⟨gx, 2, none⟩ = some (.int .i64 z.f2) := (blk_cell HS4.out 2).trans rfl
          have d3 : W2.cell? ⟨gx, 3, none⟩ = some (.int .i64 z.f3) := (blk_cell HS4.out 3).trans rfl
          have d4 : W2.cell? ⟨gx, 4, none⟩ = some (.int .i64 z.f4) := (blk_cell HS4.out 4).trans rfl
          have d5 : W2.cell? ⟨gx, 5, none⟩ = some (.string z.f5) := (blk_cell HS4.out 5).trans rfl
          have d6 : W2.cell? ⟨gx, 6, none⟩ = some (.int .i64 z.f6) := (blk_cell HS4.out 6).trans rfl
          have d7 : W2.cell? ⟨gx, 7, none⟩ = some (.slice A7 z.f7.length c7) := (blk_cell HS4.out 7).trans rfl
          have d8 : W2.cell? ⟨gx, 8, none⟩ = some (.slice A8 z.f8.length c8) := (blk_cell HS4.out 8).trans rfl
          have d9 : W2.cell? ⟨gx, 9, none⟩ = some (.bool z.f9) := (blk_cell HS4.out 9).trans rfl
          have d10 : W2.cell? ⟨gx, 10, none⟩ = some (.bool z.f10) := (blk_cell HS4.out 10).trans rfl
          have d11 : W2.cell? ⟨gx, 11, none⟩ = some (.slice A11 z.f11.length c11) := (blk_cell HS4.out 11).trans rfl
          have d12 : W2.cell? ⟨gx, 12, none⟩ = some (.int .i64 z.f12) := (blk_cell HS4.out 12).trans rfl
          have d13 : W2.cell? ⟨gx, 13, none⟩ = some (.slice A13 z.f13.length c13) := (blk_cell HS4.out 13).trans rfl
          go_wp2_with (first | ((with_reducible refine gate_builtin (b := .append) (xs := #[.tmp 39, .tmp 41]) rfl ?_); at_builtin; refine Kd.R_append (Kd.fixed k33 w) (w0 := w) (W := W2) w.heap.size rfl (.tmp 39) (.tmp 41) 23 33 z33v 176 rfl Try.underlying23 info33 rfl (show 0 < 14 by decide) (by decide) (.slice Aq n cq) ((l.take i.toNat).map toX) z [.int .i64 z.f0, .int .i64 z.f1, .int .i64 z.f2, .int .i64 z.f3, .int .i64 z.f4, .string z.f5, .int .i64 z.f6, .slice A7 z.f7.length c7, .slice A8 z.f8.length c8, .bool z.f9, .bool z.f10, .slice A11 z.f11.length c11, .int .i64 z.f12, .slice A13 z.f13.length c13] (fun _ => True) (fun _ => False) rfl rfl HKZ.out (fun _ hk => hk.elim) (fun _ _ => trivial) HGG.out.2.2.1 HGG.out.2.2.2 HGG.out.2.2.2.size (by rw [HNN.out]; have := HN4'.out; omega) ?_; intro v1 w1 ho hb hg _; obtain ⟨Ar, cr, er⟩ := Kd.R_slice ho; obtain ⟨nr, hnr⟩ : ∃ nr, (List.map toX (List.take i.toNat l) ++ [z]).length = nr := ⟨_, rfl⟩; rw [hnr] at er; clear hnr; subst er; have HPU := Aside0.mk (Cv.push HGG.out.1 HGG.out.2.1 HGG.out.2.2.1 HGQ.out.1 HGQ.out.2 ho hb hg); have hgq := (hg.block gq (blk_lt HGG.out.2.1) (Kd.R_ne HGG.out.2.2.1 HGG.out.2.1 (by decide))).trans HGG.out.2.1; have r1 : w1.cell? ⟨gq, 1, none⟩ = some (.slice Aq n cq) := (blk_cell hgq 1).trans rfl; have f1 : w1.frozen? ⟨gq, 1, none⟩ = false := frozen_of_row w1 gq 1 _ 25 hgq; clear ho hb hg hgq))
          go_roundg (l.length - (i.toNat + 1))
          case measure => have := HI.out; omega
          case rel => exact ⟨i + 1, rfl, ⟨by omega, by omega, by omega⟩, ⟨by rw [show (i + 1).toNat = i.toNat + 1 by omega, HSN2.out]; exact HPU.out⟩⟩
    · obtain rfl : i = l.length := by omega
      have hv := HV.out
      rw [show (l.length : Int).toNat = l.length by omega, List.take_length] at hv
      have b1 : decide ((l.length : Int) < (l.length : Int)) = false := decide_eq_false (by omega)
      obtain ⟨v, g1, g2, g3, g4⟩ := hv
      obtain ⟨Aq, cq, e, hcq, hCq⟩ := Cv.reads g3 g4
      subst e
      have y0 : wr.cell? ⟨gq, 0, none⟩ = some (.string t) := (blk_cell g2 0).trans rfl
      have y1 : wr.cell? ⟨gq, 1, none⟩ = some (.slice Aq (l.map toX).length cq) := (blk_cell g2 1).trans rfl
      have HG1 := Aside0.mk g1
      have HG4 := Aside0.mk g4
      have HCK2 := Aside0.mk (check_ok wr t Aq (l.map toX) cq hCq hcq (by rw [List.length_map]; exact HL.out) HT.out (fun x hx => by
        obtain ⟨u, hu, rfl⟩ := List.mem_map.1 hx
        have := HS.out u hu
        unfold toX; split <;> exact this) HX.out)
      clear g1 g2 g3 g4 hcq hCq HV h0 h1 h2 hlt HI
      obtain ⟨n, hn⟩ : ∃ n, (l.map toX).length = n := ⟨_, rfl⟩
      rw [hn] at y1 HCK2
      clear hn
      go_upto_region 16 with (first | (go_at_call 8; (with_reducible refine HCK2.out.mono ?_); rintro e w5 ⟨rfl, hb⟩; have HB5 := Aside0.mk (below_step HG4.out hb); have HG5 := Aside0.mk ((hb.block gp (blk_lt HG1.out)).trans HG1.out); clear hb))
      have z0 : w5.cell? ⟨gp, 0, none⟩ = some (.string t) := (blk_cell HG5.out 0).trans rfl
      obtain ⟨M, hM⟩ : ∃ M, wrap64 (1 + bits .and .i64 mode 3) = M := ⟨_, rfl⟩
      go_upto_region 17 with (fail)
      rw [hM]
      have HM := Aside0.mk hM
      clear hM
      have hv := Cv.lock (tab := tab) (m := M) HB5.out HG5.out
      have hne : gp ≠ w5.heap.size + 1 := by have := blk_lt HG5.out; omega
      obtain ⟨gw, hgw⟩ : ∃ gw, w5.heap.size + 1 = gw := ⟨_, rfl⟩
      have HGW : Aside0 (gp ≠ gw ∧ w.heap.size ≤ gw) := ⟨by rw [← hgw]; exact hne, by have := HB5.out.size; omega⟩
      rw [hgw] at hv
      rw [hgw]
      change Cv w ((w5.alloc (.cells #[.int .i64 1, .int .i64 0, .int .i64 0, .int .i64 M, .int .i64 0, .string tab, .int .i64 0, .slice none 0 0, .slice none 0 0, .bool false, .bool false, .slice none 0 0, .int .i64 0, .slice none 0 0] 33)).alloc (.cells #[.string t, .slice (some ⟨w5.heap.size, 0, none⟩) 1 1] 25)) gp gw t A l.length c [lockI tab M] at hv
      clear z0 hne y0 y1 b1 HB5 HG5 HCK2 HG1 HG4
      generalize (w5.alloc (.cells #[.int .i64 1, .int .i64 0, .int .i64 0, .int .i64 M, .int .i64 0, .string tab, .int .i64 0, .slice none 0 0, .slice none 0 0, .bool false, .bool false, .slice none 0 0, .int .i64 0, .slice none 0 0] 33)).alloc (.cells #[.string t, .slice (some ⟨w5.heap.size, 0, none⟩) 1 1] 25) = W6 at hv ⊢
      have c0 : W6.cell? ⟨gp, 0, none⟩ = some (.string t) := by obtain ⟨v, h1, _⟩ := hv; exact (blk_cell h1 0).trans rfl
      have c1 : W6.cell? ⟨gp, 1, none⟩ = some (.slice A l.length c) := by obtain ⟨v, h1, _⟩ := hv; exact (blk_cell h1 1).trans rfl
      have HV := Aside0.mk hv
      clear hv hgw
      go_wp2
      clear c0 c1
      go_loopg [60] l.length (fun kq v60 w' => ∃ (i : Int), v60 = .int .i64 i ∧ Aside0 (0 ≤ i ∧ i ≤ l.length ∧ (kq : Int) = l.length - i) ∧ Aside0 (Cv w w' gp gw t A l.length c (lockI tab M :: (l.take i.toNat).map bump)))
      case atStart => exact ⟨0, rfl, ⟨by omega, by omega, by omega⟩, HV⟩
      case round =>
        clear HV
        obtain ⟨i, rfl, HI, HV⟩ := hrel
        obtain ⟨h0, h1, h2⟩ := HI.out
        by_cases hlt : i < l.length
        · have hBw : Below w.heap.size w wr := by obtain ⟨v, _, _, _, h⟩ := HV.out; exact h
          obtain ⟨ad, A7, A8, A11, A13, c7, c8, c11, c13, e, x0, x1, x2, x3, x4, x5, x6, x7, x8, x9, x10, x11, x12, x13, hk⟩ := elem_full HC.out hBw i h0 hlt
          cases e
          have q0 := eq_true h0
          have q1 := eq_true hlt
          have b1 : decide (i < (l.length : Int)) = true := decide_eq_true hlt
          have hsn := take_snoc33 l i h0 hlt
          obtain ⟨y, hy⟩ : ∃ y, rd_T33 l i = y := ⟨_, rfl⟩
          rw [hy] at x0 x1 x2 x3 x4 x5 x6 x7 x8 x9 x10 x11 x12 x13 hsn hk
          have hi63 : i ≤ 4096 := by have := H4.out; omega
          have HSN := Aside0.mk hsn
          have HK := Aside0.mk hk
          have hnew := Below.alloc (Below.refl wr.heap.size wr) (Nat.le_refl _) (.cells (iv y A7 A8 A11 A13 c7 c8 c11 c13) 33)
          have hbx := heap_alloc_new wr (.cells (iv y A7 A8 A11 A13 c7 c8 c11 c13) 33)
          have HN := Aside0.mk hnew
          have HXB := Aside0.mk hbx
          clear h1 h2 hy hsn hnew hbx hBw hk
          go_upto_region 20 with (fail)
          clear x0 x1 x2 x3 x4 x5 x6 x7 x8 x9 x10 x11 x12 x13
          obtain ⟨gx, hgx⟩ : ∃ gx, wr.heap.size = gx := ⟨_, rfl⟩
          generalize wr.alloc (.cells (iv y A7 A8 A11 A13 c7 c8 c11 c13) 33) = W1 at HN HXB ⊢
          rw [hgx] at HXB
          rw [hgx]
          have HGX := Aside0.mk hgx
          clear hgx
          have y0 : W1.cell? ⟨gx, 0, none⟩ = some (.int .i64 y.f0) := (blk_cell HXB.out 0).trans rfl
          obtain ⟨bb, hbb⟩ : ∃ bb, (y.f0 == 3 || y.f0 == 4 || y.f0 == 8) = bb := ⟨_, rfl⟩
          have HBB := Aside0.mk hbb
          clear hbb
          go_cut [76] (fun v76 wc => v76 = .bool bb ∧ wc = W1)
          case first =>
            by_cases e1 : y.f0 = 3
            · have t1 : (y.f0 == 3) = true := beq_iff_eq.2 e1
              have e : bb = true := by rw [← HBB.out, t1]; rfl
              subst e
              clear e1
              go_wp2
              go_meet
              case rel => exact ⟨rfl, rfl⟩
            · have t1 : (y.f0 == 3) = false := beq_eq_false_iff_ne.2 e1
              by_cases e4 : y.f0 = 4
              · have t4 : (y.f0 == 4) = true := beq_iff_eq.2 e4
                have e : bb = true := by rw [← HBB.out, t1, t4]; rfl
                subst e
                clear e1 e4
                go_wp2
                go_meet
                case rel => exact ⟨rfl, rfl⟩
              · have t4 : (y.f0 == 4) = false := beq_eq_false_iff_ne.2 e4
                obtain ⟨b8, hb8⟩ : ∃ b8, (y.f0 == 8) = b8 := ⟨_, rfl⟩
                have e : bb = b8 := by rw [← HBB.out, t1, t4, hb8]; rfl
                subst e
                clear e1 e4
                go_wp2
                go_meet
                case rel => exact ⟨rfl, rfl⟩
          case rest =>
            obtain ⟨rfl, rfl⟩ := hcut
            clear y0
            go_upto_if 76 with (fail)
            go_cut [] (fun W2 => Aside0 (W2.heap[gx]? = some (.cells (iv (bump y) A7 A8 A11 A13 c7 c8 c11 c13) 33 (0, 0))) ∧ Aside0 (Below wr.heap.size wr W2))
            case first =>
              cases bb
              · have he : bump y = y := if_neg (fun h => by have := HBB.out; simp at this; omega)
                have HS4 := HXB
                rw [← he] at HS4
                clear he
                go_wp2
                go_meet
                case rel => exact ⟨HS4, HN⟩
              · have he : bump y = { y with f2 := wrap64 (y.f2 + 1) } := if_pos (by have := HBB.out; simp at this; omega)
                obtain ⟨j, hj⟩ : ∃ j, wrap64 (y.f2 + 1) = j := ⟨_, rfl⟩
                rw [hj] at he
                have y2 : wc.cell? ⟨gx, 2, none⟩ = some (.int .i64 y.f2) := (blk_cell HXB.out 2).trans rfl
                have z2 : wc.frozen? ⟨gx, 2, none⟩ = false := frozen_of_row wc gx 2 _ 33 HXB.out
                have hs4 : (wc.setCell ⟨gx, 2, none⟩ (.int .i64 j)).heap[gx]? = some (.cells (iv (bump y) A7 A8 A11 A13 c7 c8 c11 c13) 33 (0, 0)) := by
                  rw [he]; exact (heap_setCell_same wc gx 2 _ 33 (.int .i64 j) HXB.out).trans rfl
                have hn4 : Below wr.heap.size wr (wc.setCell ⟨gx, 2, none⟩ (.int .i64 j)) := HN.out.setCell (Nat.le_of_eq HGX.out) _
                have HS4 := Aside0.mk hs4
                have HN4 := Aside0.mk hn4
                clear he hs4 hn4
                go_wp2
                go_meet
                case rel => exact ⟨HS4, HN4⟩
            case rest =>
              obtain ⟨HS4, HN4⟩ := hcut
              generalize wc = W2 at HS4 HN4 ⊢
              obtain ⟨v, g1, g2, g3, g4⟩ := HV.out.keep HN4.out
              obtain ⟨Aq, cq, e, -, -⟩ := Cv.reads g3 g4
              subst e
              have p1 : W2.cell? ⟨gw, 1, none⟩ = some (.slice Aq (lockI tab M :: List.map bump (List.take i.toNat l)).length cq) := (blk_cell g2 1).trans rfl
              obtain ⟨n, hn⟩ : ∃ n, (lockI tab M :: List.map bump (List.take i.toNat l)).length = n := ⟨_, rfl⟩
              have HN4' : Aside0 (n ≤ 4097) := ⟨by have := H4.out; rw [← hn, List.length_cons, List.length_map, List.length_take]; omega⟩
              rw [hn] at p1 g2 g3
              have HGG := Aside0.mk (And.intro g1 (And.intro g2 (And.intro g3 g4)))
              have HNN := Aside0.mk hn
              clear g1 g2 g3 g4 hn
              obtain ⟨z, hz⟩ : ∃ z, bump y = z := ⟨_, rfl⟩
              have HKZ : Aside0 (k33.K w z (iv z A7 A8 A11 A13 c7 c8 c11 c13).toList) := ⟨HK.out z (by rw [← hz]; unfold bump; split <;> rfl) (by rw [← hz]; unfold bump; split <;> rfl) (by rw [← hz]; unfold bump; split <;> rfl) (by rw [← hz]; unfold bump; split <;> rfl)⟩
              have HSN2 : Aside0 (lockI tab M :: (l.take (i.toNat + 1)).map bump = (lockI tab M :: (l.take i.toNat).map bump) ++ [z]) := ⟨by rw [HSN.out, List.map_append, ← hz]; rfl⟩
              rw [hz] at HS4
              clear hz HSN HK
              have d0 : W2.cell? ⟨gx, 0, none⟩ = some (.int .i64 z.f0) := (blk_cell HS4.out 0).trans rfl
              have d1 : W2.cell? ⟨gx, 1, none⟩ = some (.int .i64 z.f1) := (blk_cell HS4.out 1).trans rfl
              have d2 : W2.cell? ⟨gx, 2, none⟩ = some (.int .i64 z.f2) := (blk_cell HS4.out 2).trans rfl
              have d3 : W2.cell? ⟨gx, 3, none⟩ = some (.int .i64 z.f3) := (blk_cell HS4.out 3).trans rfl
              have d4 : W2.cell? ⟨gx, 4, none⟩ = some (.int .i64 z.f4) := (blk_cell HS4.out 4).trans rfl
              have d5 : W2.cell? ⟨gx, 5, none⟩ = some (.string z.f5) := (blk_cell HS4.out 5).trans rfl
              have d6 : W2.cell? ⟨gx, 6, none⟩ = some (.int .i64 z.f6) := (blk_cell HS4.out 6).trans rfl
              have d7 : W2.cell? ⟨gx, 7, none⟩ = some (.slice A7 z.f7.length c7) := (blk_cell HS4.out 7).trans rfl
              have d8 : W2.cell? ⟨gx, 8, none⟩ = some (.slice A8 z.f8.length c8) := (blk_cell HS4.out 8).trans rfl
              have d9 : W2.cell? ⟨gx, 9, none⟩ = some (.bool z.f9) := (blk_cell HS4.out 9).trans rfl
              have d10 : W2.cell? ⟨gx, 10, none⟩ = some (.bool z.f10) := (blk_cell HS4.out 10).trans rfl
              have d11 : W2.cell? ⟨gx, 11, none⟩ = some (.slice A11 z.f11.length c11) := (blk_cell HS4.out 11).trans rfl
              have d12 : W2.cell? ⟨gx, 12, none⟩ = some (.int .i64 z.f12) := (blk_cell HS4.out 12).trans rfl
              have d13 : W2.cell? ⟨gx, 13, none⟩ = some (.slice A13 z.f13.length c13) := (blk_cell HS4.out 13).trans rfl
              go_wp2_with (first | ((with_reducible refine gate_builtin (b := .append) (xs := #[.tmp 82, .tmp 84]) rfl ?_); at_builtin; refine Kd.R_append (Kd.fixed k33 w) (w0 := w) (W := W2) w.heap.size rfl (.tmp 82) (.tmp 84) 23 33 z33v 176 rfl Try.underlying23 info33 rfl (show 0 < 14 by decide) (by decide) (.slice Aq n cq) (lockI tab M :: (l.take i.toNat).map bump) z [.int .i64 z.f0, .int .i64 z.f1, .int .i64 z.f2, .int .i64 z.f3, .int .i64 z.f4, .string z.f5, .int .i64 z.f6, .slice A7 z.f7.length c7, .slice A8 z.f8.length c8, .bool z.f9, .bool z.f10, .slice A11 z.f11.length c11, .int .i64 z.f12, .slice A13 z.f13.length c13] (fun _ => True) (fun _ => False) rfl rfl HKZ.out (fun _ hk => hk.elim) (fun _ _ => trivial) HGG.out.2.2.1 HGG.out.2.2.2 HGG.out.2.2.2.size (by rw [HNN.out]; have := HN4'.out; omega) ?_; intro v1 w1 ho hb hg _; obtain ⟨Ar, cr, er⟩ := Kd.R_slice ho; obtain ⟨nr, hnr⟩ : ∃ nr, (lockI tab M :: List.map bump (List.take i.toNat l) ++ [z]).length = nr := ⟨_, rfl⟩; rw [hnr] at er; clear hnr; subst er; have HPU := Aside0.mk (Cv.push HGG.out.1 HGG.out.2.1 HGG.out.2.2.1 HGW.out.1 HGW.out.2 ho hb hg); have hgw := (hg.block gw (blk_lt HGG.out.2.1) (Kd.R_ne HGG.out.2.2.1 HGG.out.2.1 (by decide))).trans HGG.out.2.1; have r1 : w1.cell? ⟨gw, 1, none⟩ = some (.slice Aq n cq) := (blk_cell hgw 1).trans rfl; have f1 : w1.frozen? ⟨gw, 1, none⟩ = false := frozen_of_row w1 gw 1 _ 25 hgw; clear ho hb hg hgw))
              go_roundg (l.length - (i.toNat + 1))
              case measure => have := HI.out; omega
              case rel => exact ⟨i + 1, rfl, ⟨by omega, by omega, by omega⟩, ⟨by rw [show (i + 1).toNat = i.toNat + 1 by omega, HSN2.out]; exact HPU.out⟩⟩
        · obtain rfl : i = l.length := by omega
          have hv := HV.out
          rw [show (l.length : Int).toNat = l.length by omega, List.take_length] at hv
          have b1 : decide ((l.length : Int) < (l.length : Int)) = false := decide_eq_false (by omega)
          obtain ⟨v, g1, g2, g3, g4⟩ := hv
          obtain ⟨Aw, cw, e, hcw, hCw⟩ := Cv.reads g3 g4
          subst e
          have y0 : wr.cell? ⟨gw, 0, none⟩ = some (.string t) := (blk_cell g2 0).trans rfl
          have y1 : wr.cell? ⟨gw, 1, none⟩ = some (.slice Aw (lockI tab M :: l.map bump).length cw) := (blk_cell g2 1).trans rfl
          obtain ⟨n2, hn2⟩ : ∃ n2, (lockI tab M :: l.map bump).length = n2 := ⟨_, rfl⟩
          have hn3 : n2 = l.length + 1 := by rw [← hn2, List.length_cons, List.length_map]
          have HN3 := Aside0.mk hn3
          have HG4 := Aside0.mk g4
          by_cases hgt : n2 > 4096
          · rw [hn2] at y1
            have d1 : decide ((n2 : Int) > 4096) = true := decide_eq_true (by omega)
            clear g1 g2 g3 g4 hcw hCw HV h0 h1 h2 hlt HI hn2 hn3 hgt
            go_wp2
            go_ret
            exact ⟨by first | rfl | simp, HG4.out⟩
          · have HCK3 := Aside0.mk (check_ok wr t Aw (lockI tab M :: l.map bump) cw hCw hcw (by rw [List.length_cons, List.length_map]; have := H4.out; omega) HT.out (fun x hx => by
              rcases List.mem_cons.1 hx with rfl | hx
              · exact ⟨HTAB.out, by show (-9223372036854775808 : Int) ≤ 0; omega, by show (0 : Int) < 9223372036854775808; omega⟩
              · obtain ⟨u, hu, rfl⟩ := List.mem_map.1 hx
                have := HS.out u hu
                unfold bump; split <;> exact this) (by rw [← HM.out]; exact HW.out (by omega)))
            rw [hn2] at y1 HCK3
            have d1 : decide ((n2 : Int) > 4096) = false := decide_eq_false (by omega)
            clear g1 g2 g3 g4 hcw hCw HV h0 h1 h2 hlt HI hn2 hn3 hgt
            go_wp2_with (first | (go_at_call 8; (with_reducible refine HCK3.out.mono ?_); rintro e w7 ⟨rfl, hb⟩; have HB7 := Aside0.mk (below_step HG4.out hb); clear hb))
            go_ret
            exact ⟨by first | rfl | simp, HB7.out⟩
end Go.Proofs.Ytfnmploaklboiaa
