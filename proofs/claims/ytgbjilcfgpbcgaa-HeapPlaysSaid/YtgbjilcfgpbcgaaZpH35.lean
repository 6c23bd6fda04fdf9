import Derived.Test.YtgbjilcfgpbcgaaZpH34
/- Layer 8: HeapPlays, walked. -/
namespace Go.Proofs.Ytgbjilcfgpbcgaa
open Go.RowKit Go.Proofs.YtgbjilcfgpbcgaaW.PrintWords Go.Proofs.YtgbjilcfgpbcgaaW.PrintLast Go.Proofs.YtgbjilcfgpbcgaaW.PrintMore
set_option linter.unusedSimpArgs false
set_option linter.unusedVariables false
set_option maxHeartbeats 16000000 in
set_option maxRecDepth 100000 in
theorem plays_calls (w : World) (A : Option Addr) (l : List S38) (n c : Nat) (hC : Kd.C k38 w A n l) (hln : l.length = n) (hc : n ≤ c) (hn : n ≤ 3600000000000) (hq : ∀ x ∈ l, Q38 x) :
    Calls Try.prog 5 #[.slice A n c] w fun e w' => e = .returned (.bool true) ∧ Below w.heap.size w w' := by
  have HC := Aside0.mk hC
  have HLN := Aside0.mk hln
  have HN := Aside0.mk hn
  have HQ := Aside0.mk hq
  clear hC hln hn hq
  go_enter Try.func5, Try.ntmps5
  go_wp2_with (first
    | (go_at_call 7; (with_reducible refine (speaks_calls _).mono ?_); rintro e w1 ⟨rfl, hb⟩; have HB := Aside0.mk hb; clear hb)
    | (go_at_call 8; (with_reducible refine (H8.new _ w.heap.size HB.out.size).mono ?_); rintro e w2 ⟨hb, rfl, h1, hb2⟩; have HH := Aside0.mk h1; have n0_ := Aside0.mk (HB.out.trans (hb2.mono HB.out.size)); clear HB; have HB := n0_; clear n0_ h1 hb2))
  have hbl := below_alloc (Below.refl w2.heap.size w2) (.cells #[.slice none 0 0, .int .i64 0] 48)
  have hgk := heap_alloc_new w2 (.cells #[.slice none 0 0, .int .i64 0] 48)
  have hsz : (w2.alloc (.cells #[.slice none 0 0, .int .i64 0] 48)).heap.size = w2.heap.size + 1 := by simp
  have HJ0 : Aside0 (J8 w.heap.size (w2.alloc (.cells #[.slice none 0 0, .int .i64 0] 48)) hb S0 0 (fun k => w1.heap.size ≤ k ∧ k < w2.heap.size) w2.heap.size [] (fun k => k = w2.heap.size)) := ⟨⟨HH.out.below hbl, ⟨⟨_, ⟨hgk, ⟨HB.out.size, rfl⟩, Kd.R_nil _ _ _ _ _⟩⟩, fun k hk => ⟨by rw [hk]; exact HB.out.size, by rw [hk, hsz]; omega⟩, by rw [hsz]; exact Nat.le_succ_of_le HB.out.size, by simp⟩, rel_zero, trim_zero, fun k hk e => by omega⟩⟩
  have HB0 : Aside0 (Below w.heap.size w (w2.alloc (.cells #[.slice none 0 0, .int .i64 0] 48))) := ⟨HB.out.trans (hbl.mono HB.out.size)⟩
  obtain ⟨g, hg⟩ : ∃ g, w2.heap.size = g := ⟨_, rfl⟩
  rw [hg] at HJ0
  rw [hg]
  clear hbl hgk hsz hg HH HB
  go_loopg [24] n (fun kq v24 W => ∃ (i : Nat) (S : St) (O : Nat → Prop) (sl : List S51) (O2 : Nat → Prop), v24 = .int .i64 i ∧ Aside0 (i ≤ n ∧ kq = n - i) ∧ Aside0 (J8 w.heap.size W hb S i O g sl O2) ∧ Aside0 (sl.length ≤ i) ∧ Aside0 (Below w.heap.size w W))
  case atStart => exact ⟨0, S0, _, [], _, rfl, ⟨by omega, by omega⟩, HJ0, ⟨Nat.le_refl _⟩, HB0⟩
  case round =>
    clear HJ0 HB0
    obtain ⟨i, S, O, sl, O2, rfl, HI, HJ, HSL, HB⟩ := hrel
    by_cases hlt : i < n
    · obtain ⟨ad, A1, c1, e, x0, x1, x2, hl1, hk1⟩ := at38B HC.out HB.out i hlt
      cases e
      have q1 : decide ((i : Int) < (n : Int)) = true := decide_eq_true (by omega)
      have j0 : (0 : Int) ≤ (i : Int) := by omega
      have j1 : (i : Int) < (n : Int) := by omega
      have j2 : ((i : Int)).toNat = i := by omega
      have HQ1 := Aside0.mk (HQ.out _ (rd38_mem (by rw [HLN.out]; exact hlt)))
      obtain ⟨z, hz⟩ : ∃ z, rd38 l i = z := ⟨_, rfl⟩
      rw [hz] at x0 x1 x2 HQ1
      rw [hz] at hl1 hk1
      have HK1 := Aside0.mk hk1
      have HL1 := Aside0.mk hl1
      have HNL : Aside0 (z.f2.length ≤ 140737488355328) := ⟨Nat.le_trans HQ1.out.2.2 (by decide)⟩
      clear hz hk1 hl1
      go_upto_region 9 with (fail)
      clear x0 x1 x2
      have hbx := heap_alloc_new wr (.cells #[.int .i64 z.f0, .int .i64 z.f1, .slice A1 z.f2.length c1] 38)
      have hb2 := below_alloc (Below.refl wr.heap.size wr) (.cells #[.int .i64 z.f0, .int .i64 z.f1, .slice A1 z.f2.length c1] 38)
      have hh2 := Aside0.mk (HJ.out.below hb2)
      have hB2 := Aside0.mk (HB.out.trans (hb2.mono HB.out.size))
      obtain ⟨go, hg⟩ : ∃ go, wr.heap.size = go := ⟨_, rfl⟩
      rw [hg] at hbx
      rw [hg]
      have HOUT : Aside0 (¬ O go ∧ ¬ O2 go) := ⟨⟨fun ho => by have := (HJ.out.h.own go ho).2; omega, fun ho => by have := (HJ.out.r.own go ho).2; omega⟩⟩
      generalize wr.alloc (.cells #[.int .i64 z.f0, .int .i64 z.f1, .slice A1 z.f2.length c1] 38) = W2 at hbx hh2 hB2 ⊢
      clear HJ HB hb2 hg
      have y2 : W2.cell? ⟨go, 2, none⟩ = some (.slice A1 z.f2.length c1) := (blk_cell hbx 2).trans rfl
      have HBX := Aside0.mk hbx
      clear hbx
      go_upto_region 10 with (first | (go_at_call 15; (with_reducible refine (copy_calls A1 _ c1 _ W2 rfl HL1.out HNL.out (HK1.out W2 hB2.out)).mono ?_); rintro e w3 ⟨v, rfl, hR, hb3⟩; have HR := Aside0.mk hR; obtain ⟨A3, c3, ev⟩ := Kd.R_slice hR; subst ev; have HJ := Aside0.mk (hh2.out.below hb3); have HB := Aside0.mk (hB2.out.trans (hb3.mono hB2.out.size)); have HGB := Aside0.mk ((hb3.block go (blk_lt HBX.out)).trans HBX.out); clear hR hb3))
      have hM0 : M8 w.heap.size w3 hb S i O g sl S.last O2 go #[.int .i64 z.f0, .int .i64 z.f1, .slice A1 z.f2.length c1] (.slice A3 z.f2.length c3) z.f2 := ⟨HJ.out.h, HJ.out.r, HJ.out.dis, ⟨HGB.out, HOUT.out, Kd.R_lower (Kd.R_mono (Kd.R_bound HR.out) fun k hk => ⟨fun ho => by have := (hh2.out.h.own k ho).2; have := hk.2.1; omega, fun ho => by have := (hh2.out.r.own k ho).2; have := hk.2.1; omega⟩) hB2.out.size⟩⟩
      have HM := Aside0.mk hM0
      have HINV := Aside0.mk HJ.out.h.inv
      have HREL := Aside0.mk HJ.out.rel
      have HTRM := Aside0.mk HJ.out.trim
      obtain ⟨lv, hlv⟩ : ∃ lv, S.last = lv := ⟨_, rfl⟩
      have HLV := Aside0.mk hlv
      rw [hlv] at HM
      have HLA : Aside0 (0 ≤ lv ∧ lv ≤ 4000000000000) := ⟨by have h := HINV.out.bd; have := HN.out; rw [hlv] at h; omega⟩
      have HBD : Aside0 (sl.length + 1 ≤ 4000000000000) := ⟨by have := HSL.out; have := HN.out; omega⟩
      have HNI : Aside0 ((i : Int) + 1 ≤ 4000000000000) := ⟨by have := HN.out; omega⟩
      have HNI2 : Aside0 (((i + 1 : Nat) : Int) ≤ 4000000000000) := ⟨by have := HN.out; omega⟩
      have HNP : Aside0 ((i : Int) ≤ 4000000000000) := ⟨by have := HN.out; omega⟩
      clear hM0 hlv HJ hh2 hB2 HBX HGB HR y2
      have y0 : w3.cell? ⟨go, 0, none⟩ = some (.int .i64 z.f0) := (blk_cell HM.out.env.blk 0).trans rfl
      have y1 : w3.cell? ⟨go, 1, none⟩ = some (.int .i64 z.f1) := (blk_cell HM.out.env.blk 1).trans rfl
      have y2 : w3.cell? ⟨go, 2, none⟩ = some (.slice A1 z.f2.length c1) := (blk_cell HM.out.env.blk 2).trans rfl
      obtain ⟨kk, hkk0, hkk1⟩ := and_low z.f0 7 (by decide)
      have hkk : bits .and .i64 z.f0 7 = (kk : Int) := hkk0
      clear hkk0
      have hcase : kk = 0 ∨ kk = 1 ∨ kk = 2 ∨ kk = 3 ∨ kk = 4 ∨ kk = 5 ∨ kk = 6 ∨ kk = 7 := by omega
      clear hkk1
      rcases hcase with rfl | rfl | rfl | rfl | rfl | rfl | rfl | rfl
      · obtain ⟨j, hj, hrl, htr⟩ := add_eq HINV.out HREL.out HTRM.out z.f2
        rw [HLV.out] at hrl
        have HJJ := Aside0.mk hj
        have HRL := Aside0.mk hrl
        have HTR := Aside0.mk htr
        have HLS : Aside0 ((layR sl j (⟨lv + 1, z.f2⟩ : S51)).length ≤ sl.length + 1) := ⟨(layR_len sl j _ hj.le).2.2⟩
        clear hj hrl htr
        go_upto_region 18 with (fail)
        go_region_law (first
          | (go_simp; go_at_call 9; refine ((HM.out.below ?cb).add HNI.out HNL.out).mono ?_; (case cb => (repeat (first | exact Below.refl _ _ | apply below_alloc | apply pw_below_drewN | apply below_drew1))); rintro e w4 ⟨he, hg⟩; rw [HLV.out] at he; subst he; obtain ⟨O', O2', hm, hbl⟩ := hg; have hM := Aside0.mk hm; have n1_ := (Aside0.mk (Below.trans (b := _) (by first | exact HB.out | exact below_drew HB.out) hbl) : Aside0 (Below w.heap.size w w4)); clear HM HB hbl hm; have HM := hM; have HB := n1_; clear hM n1_; have y1 : w4.cell? ⟨go, 1, none⟩ = some (.int .i64 z.f1) := (blk_cell HM.out.env.blk 1).trans rfl; have y2 : w4.cell? ⟨go, 2, none⟩ = some (.slice A1 z.f2.length c1) := (blk_cell HM.out.env.blk 2).trans rfl)
          | (go_simp; go_at_call 18; refine ((HM.out.below ?cb).addR HBD.out HLA.out rfl HL1.out ?cc HNL.out HJJ.out).mono ?_; (case cb => (repeat (first | exact Below.refl _ _ | apply below_alloc | apply pw_below_drewN | apply below_drew1))); (case cc => exact fun W hk => C_blocks (HK1.out w (Below.refl _ _)) fun k hkb => (hk k hkb).trans ((by first | exact HB.out | exact below_drew HB.out : Below w.heap.size w _).block k hkb)); rintro e w5 ⟨rfl, hg⟩; obtain ⟨O', O2', hm, hbl⟩ := hg; have hM := Aside0.mk hm; have n1_ := (Aside0.mk (Below.trans (b := _) (by first | exact HB.out | exact below_drew HB.out) hbl) : Aside0 (Below w.heap.size w w5)); clear HM HB hbl hm; have HM := hM; have HB := n1_; clear hM n1_; have y1 : w5.cell? ⟨go, 1, none⟩ = some (.int .i64 z.f1) := (blk_cell HM.out.env.blk 1).trans rfl; have y2 : w5.cell? ⟨go, 2, none⟩ = some (.slice A1 z.f2.length c1) := (blk_cell HM.out.env.blk 2).trans rfl))
        all_goals
          have HLL : Aside0 ((addP S z.f2).last = lv + 1) := ⟨by rw [add_last, HLV.out]⟩
          go_upto_region 33 with (fail)
          have hst1 : Sem.run Try.prog (convert 27 9 (.slice A3 z.f2.length c3)) w5 = .ok (.string (strOfNums z.f2)) w5 := Kd.C_string (P := Try.prog) (xs := z.f2) Try.underlying27 Try.underlying5 Try.underlying9 (Kd.R_reads' HM.out.env.row).2.2
          have hst2 : Sem.run Try.prog (convert 27 9 (.slice A1 z.f2.length c1)) w5 = .ok (.string (strOfNums z.f2)) w5 := Kd.C_string (P := Try.prog) (xs := z.f2) Try.underlying27 Try.underlying5 Try.underlying9 (HK1.out w5 HB.out)
          obtain ⟨n3, hn3⟩ : ∃ n3, z.f2.length = n3 := ⟨_, rfl⟩
          have HN3 : Aside0 (n3 ≤ 140737488355328) := ⟨by rw [← hn3]; exact HNL.out⟩
          rw [hn3] at hst1 hst2 y2 HM
          rw [hn3]
          clear hn3
          go_wp2
          clear hst1 hst2 y1 y2
          go_loopg [128] n3 (fun kq v128 W => ∃ (q : Nat) (ys : List Int) (O4 O5 : Nat → Prop), v128 = .int .i64 q ∧ Aside0 (q ≤ n3 ∧ kq = n3 - q) ∧ Aside0 (M8 w.heap.size W hb (addP S z.f2) ((i + 1 : Nat) : Int) O4 g (layR sl j ⟨lv + 1, z.f2⟩) (lv + 1) O5 go #[.int .i64 z.f0, .int .i64 z.f1, .slice A1 n3 c1] (.slice A3 n3 c3) ys) ∧ Aside0 (Below w.heap.size w W))
          case atStart => exact ⟨0, _, _, _, rfl, ⟨by omega, by omega⟩, HM, HB⟩
          case round =>
            clear HM HB
            obtain ⟨q, ys, O4, O5, rfl, HI3, HM, HB⟩ := hrel
            by_cases hi3 : q < n3
            · have q2 : decide ((q : Int) < (n3 : Int)) = true := decide_eq_true (by omega)
              have i0 : (0 : Int) ≤ (q : Int) := by omega
              have i1 : (q : Int) < (n3 : Int) := by omega
              have i2 : ((q : Int)).toNat = q := by omega
              obtain ⟨b, eA, hb3⟩ := rowb HM.out.env.row (by omega)
              subst eA
              obtain ⟨y0, y1⟩ := Kd.R_celln 0 HM.out.env.row (q : Int) i0 i1
              rw [i2] at y0 y1
              have HM2 := Aside0.mk (HM.out.put q 238)
              have HB2 := Aside0.mk (HB.out.setCell (show w.heap.size ≤ (⟨b, q, none⟩ : Addr).block from hb3) (.int .u8 238))
              clear hb3
              go_wp2
              go_roundg (n3 - (q + 1))
              case measure => have := HI3.out; omega
              case rel => exact ⟨q + 1, _, _, _, congrArg (Value.int .i64) (by have := HN3.out; simp only [wrap64]; omega), ⟨by omega, rfl⟩, HM2, HB2⟩
            · have q2 : decide ((q : Int) < (n3 : Int)) = false := decide_eq_false (by omega)
              have y1 : wr.cell? ⟨go, 1, none⟩ = some (.int .i64 z.f1) := (blk_cell HM.out.env.blk 1).trans rfl
              have HJ8 : Aside0 (J8 w.heap.size wr hb (addP S z.f2) ((i + 1 : Nat) : Int) O4 g (layR sl j ⟨lv + 1, z.f2⟩) O5) := ⟨⟨HM.out.h, by rw [HLL.out]; exact HM.out.r, HRL.out, HTR.out, HM.out.dis⟩⟩
              go_wp2_with (first | (go_at_call 24; (with_reducible refine (shown_calls HJ8.out HNI2.out z.f1 HQ1.out.2.1).mono ?_); rintro e w9 ⟨rfl, hb9⟩; have HJ9 := Aside0.mk (HJ8.out.below hb9); have HB9 := Aside0.mk (HB.out.trans (hb9.mono HB.out.size)); clear hb9))
              go_roundg (n - (i + 1))
              case measure => have := HI.out; omega
              case rel => exact ⟨i + 1, (addP S z.f2), O4, (layR sl j ⟨lv + 1, z.f2⟩), O5, congrArg (Value.int .i64) (by have := HI.out; have := HN.out; simp only [wrap64]; omega), ⟨by omega, rfl⟩, HJ9, ⟨by have := HSL.out; have := HLS.out; omega⟩, HB9⟩
      · obtain ⟨j, hj, hrl, htr⟩ := add_eq HINV.out HREL.out HTRM.out z.f2
        rw [HLV.out] at hrl
        have HJJ := Aside0.mk hj
        have HRL := Aside0.mk hrl
        have HTR := Aside0.mk htr
        have HLS : Aside0 ((layR sl j (⟨lv + 1, z.f2⟩ : S51)).length ≤ sl.length + 1) := ⟨(layR_len sl j _ hj.le).2.2⟩
        clear hj hrl htr
        go_upto_region 18 with (fail)
        go_region_law (first
          | (go_simp; go_at_call 9; refine ((HM.out.below ?cb).add HNI.out HNL.out).mono ?_; (case cb => (repeat (first | exact Below.refl _ _ | apply below_alloc | apply pw_below_drewN | apply below_drew1))); rintro e w4 ⟨he, hg⟩; rw [HLV.out] at he; subst he; obtain ⟨O', O2', hm, hbl⟩ := hg; have hM := Aside0.mk hm; have n1_ := (Aside0.mk (Below.trans (b := _) (by first | exact HB.out | exact below_drew HB.out) hbl) : Aside0 (Below w.heap.size w w4)); clear HM HB hbl hm; have HM := hM; have HB := n1_; clear hM n1_; have y1 : w4.cell? ⟨go, 1, none⟩ = some (.int .i64 z.f1) := (blk_cell HM.out.env.blk 1).trans rfl; have y2 : w4.cell? ⟨go, 2, none⟩ = some (.slice A1 z.f2.length c1) := (blk_cell HM.out.env.blk 2).trans rfl)
          | (go_simp; go_at_call 18; refine ((HM.out.below ?cb).addR HBD.out HLA.out rfl HL1.out ?cc HNL.out HJJ.out).mono ?_; (case cb => (repeat (first | exact Below.refl _ _ | apply below_alloc | apply pw_below_drewN | apply below_drew1))); (case cc => exact fun W hk => C_blocks (HK1.out w (Below.refl _ _)) fun k hkb => (hk k hkb).trans ((by first | exact HB.out | exact below_drew HB.out : Below w.heap.size w _).block k hkb)); rintro e w5 ⟨rfl, hg⟩; obtain ⟨O', O2', hm, hbl⟩ := hg; have hM := Aside0.mk hm; have n1_ := (Aside0.mk (Below.trans (b := _) (by first | exact HB.out | exact below_drew HB.out) hbl) : Aside0 (Below w.heap.size w w5)); clear HM HB hbl hm; have HM := hM; have HB := n1_; clear hM n1_; have y1 : w5.cell? ⟨go, 1, none⟩ = some (.int .i64 z.f1) := (blk_cell HM.out.env.blk 1).trans rfl; have y2 : w5.cell? ⟨go, 2, none⟩ = some (.slice A1 z.f2.length c1) := (blk_cell HM.out.env.blk 2).trans rfl))
        all_goals
          have HLL : Aside0 ((addP S z.f2).last = lv + 1) := ⟨by rw [add_last, HLV.out]⟩
          go_upto_region 33 with (fail)
          have hst1 : Sem.run Try.prog (convert 27 9 (.slice A3 z.f2.length c3)) w5 = .ok (.string (strOfNums z.f2)) w5 := Kd.C_string (P := Try.prog) (xs := z.f2) Try.underlying27 Try.underlying5 Try.underlying9 (Kd.R_reads' HM.out.env.row).2.2
          have hst2 : Sem.run Try.prog (convert 27 9 (.slice A1 z.f2.length c1)) w5 = .ok (.string (strOfNums z.f2)) w5 := Kd.C_string (P := Try.prog) (xs := z.f2) Try.underlying27 Try.underlying5 Try.underlying9 (HK1.out w5 HB.out)
          obtain ⟨n3, hn3⟩ : ∃ n3, z.f2.length = n3 := ⟨_, rfl⟩
          have HN3 : Aside0 (n3 ≤ 140737488355328) := ⟨by rw [← hn3]; exact HNL.out⟩
          rw [hn3] at hst1 hst2 y2 HM
          rw [hn3]
          clear hn3
          go_wp2
          clear hst1 hst2 y1 y2
          go_loopg [128] n3 (fun kq v128 W => ∃ (q : Nat) (ys : List Int) (O4 O5 : Nat → Prop), v128 = .int .i64 q ∧ Aside0 (q ≤ n3 ∧ kq = n3 - q) ∧ Aside0 (M8 w.heap.size W hb (addP S z.f2) ((i + 1 : Nat) : Int) O4 g (layR sl j ⟨lv + 1, z.f2⟩) (lv + 1) O5 go #[.int .i64 z.f0, .int .i64 z.f1, .slice A1 n3 c1] (.slice A3 n3 c3) ys) ∧ Aside0 (Below w.heap.size w W))
          case atStart => exact ⟨0, _, _, _, rfl, ⟨by omega, by omega⟩, HM, HB⟩
          case round =>
            clear HM HB
            obtain ⟨q, ys, O4, O5, rfl, HI3, HM, HB⟩ := hrel
            by_cases hi3 : q < n3
            · have q2 : decide ((q : Int) < (n3 : Int)) = true := decide_eq_true (by omega)
              have i0 : (0 : Int) ≤ (q : Int) := by omega
              have i1 : (q : Int) < (n3 : Int) := by omega
              have i2 : ((q : Int)).toNat = q := by omega
              obtain ⟨b, eA, hb3⟩ := rowb HM.out.env.row (by omega)
              subst eA
              obtain ⟨y0, y1⟩ := Kd.R_celln 0 HM.out.env.row (q : Int) i0 i1
              rw [i2] at y0 y1
              have HM2 := Aside0.mk (HM.out.put q 238)
              have HB2 := Aside0.mk (HB.out.setCell (show w.heap.size ≤ (⟨b, q, none⟩ : Addr).block from hb3) (.int .u8 238))
              clear hb3
              go_wp2
              go_roundg (n3 - (q + 1))
              case measure => have := HI3.out; omega
              case rel => exact ⟨q + 1, _, _, _, congrArg (Value.int .i64) (by have := HN3.out; simp only [wrap64]; omega), ⟨by omega, rfl⟩, HM2, HB2⟩
            · have q2 : decide ((q : Int) < (n3 : Int)) = false := decide_eq_false (by omega)
              have y1 : wr.cell? ⟨go, 1, none⟩ = some (.int .i64 z.f1) := (blk_cell HM.out.env.blk 1).trans rfl
              have HJ8 : Aside0 (J8 w.heap.size wr hb (addP S z.f2) ((i + 1 : Nat) : Int) O4 g (layR sl j ⟨lv + 1, z.f2⟩) O5) := ⟨⟨HM.out.h, by rw [HLL.out]; exact HM.out.r, HRL.out, HTR.out, HM.out.dis⟩⟩
              go_wp2_with (first | (go_at_call 24; (with_reducible refine (shown_calls HJ8.out HNI2.out z.f1 HQ1.out.2.1).mono ?_); rintro e w9 ⟨rfl, hb9⟩; have HJ9 := Aside0.mk (HJ8.out.below hb9); have HB9 := Aside0.mk (HB.out.trans (hb9.mono HB.out.size)); clear hb9))
              go_roundg (n - (i + 1))
              case measure => have := HI.out; omega
              case rel => exact ⟨i + 1, (addP S z.f2), O4, (layR sl j ⟨lv + 1, z.f2⟩), O5, congrArg (Value.int .i64) (by have := HI.out; have := HN.out; simp only [wrap64]; omega), ⟨by omega, rfl⟩, HJ9, ⟨by have := HSL.out; have := HLS.out; omega⟩, HB9⟩
      · obtain ⟨j, hj, hrl, htr⟩ := add_eq HINV.out HREL.out HTRM.out z.f2
        rw [HLV.out] at hrl
        have HJJ := Aside0.mk hj
        have HRL := Aside0.mk hrl
        have HTR := Aside0.mk htr
        have HLS : Aside0 ((layR sl j (⟨lv + 1, z.f2⟩ : S51)).length ≤ sl.length + 1) := ⟨(layR_len sl j _ hj.le).2.2⟩
        clear hj hrl htr
        go_upto_region 18 with (fail)
        go_region_law (first
          | (go_simp; go_at_call 9; refine ((HM.out.below ?cb).add HNI.out HNL.out).mono ?_; (case cb => (repeat (first | exact Below.refl _ _ | apply below_alloc | apply pw_below_drewN | apply below_drew1))); rintro e w4 ⟨he, hg⟩; rw [HLV.out] at he; subst he; obtain ⟨O', O2', hm, hbl⟩ := hg; have hM := Aside0.mk hm; have n1_ := (Aside0.mk (Below.trans (b := _) (by first | exact HB.out | exact below_drew HB.out) hbl) : Aside0 (Below w.heap.size w w4)); clear HM HB hbl hm; have HM := hM; have HB := n1_; clear hM n1_; have y1 : w4.cell? ⟨go, 1, none⟩ = some (.int .i64 z.f1) := (blk_cell HM.out.env.blk 1).trans rfl; have y2 : w4.cell? ⟨go, 2, none⟩ = some (.slice A1 z.f2.length c1) := (blk_cell HM.out.env.blk 2).trans rfl)
          | (go_simp; go_at_call 18; refine ((HM.out.below ?cb).addR HBD.out HLA.out rfl HL1.out ?cc HNL.out HJJ.out).mono ?_; (case cb => (repeat (first | exact Below.refl _ _ | apply below_alloc | apply pw_below_drewN | apply below_drew1))); (case cc => exact fun W hk => C_blocks (HK1.out w (Below.refl _ _)) fun k hkb => (hk k hkb).trans ((by first | exact HB.out | exact below_drew HB.out : Below w.heap.size w _).block k hkb)); rintro e w5 ⟨rfl, hg⟩; obtain ⟨O', O2', hm, hbl⟩ := hg; have hM := Aside0.mk hm; have n1_ := (Aside0.mk (Below.trans (b := _) (by first | exact HB.out | exact below_drew HB.out) hbl) : Aside0 (Below w.heap.size w w5)); clear HM HB hbl hm; have HM := hM; have HB := n1_; clear hM n1_; have y1 : w5.cell? ⟨go, 1, none⟩ = some (.int .i64 z.f1) := (blk_cell HM.out.env.blk 1).trans rfl; have y2 : w5.cell? ⟨go, 2, none⟩ = some (.slice A1 z.f2.length c1) := (blk_cell HM.out.env.blk 2).trans rfl))
        all_goals
          have HLL : Aside0 ((addP S z.f2).last = lv + 1) := ⟨by rw [add_last, HLV.out]⟩
          go_upto_region 33 with (fail)
          have hst1 : Sem.run Try.prog (convert 27 9 (.slice A3 z.f2.length c3)) w5 = .ok (.string (strOfNums z.f2)) w5 := Kd.C_string (P := Try.prog) (xs := z.f2) Try.underlying27 Try.underlying5 Try.underlying9 (Kd.R_reads' HM.out.env.row).2.2
          have hst2 : Sem.run Try.prog (convert 27 9 (.slice A1 z.f2.length c1)) w5 = .ok (.string (strOfNums z.f2)) w5 := Kd.C_string (P := Try.prog) (xs := z.f2) Try.underlying27 Try.underlying5 Try.underlying9 (HK1.out w5 HB.out)
          obtain ⟨n3, hn3⟩ : ∃ n3, z.f2.length = n3 := ⟨_, rfl⟩
          have HN3 : Aside0 (n3 ≤ 140737488355328) := ⟨by rw [← hn3]; exact HNL.out⟩
          rw [hn3] at hst1 hst2 y2 HM
          rw [hn3]
          clear hn3
          go_wp2
          clear hst1 hst2 y1 y2
          go_loopg [128] n3 (fun kq v128 W => ∃ (q : Nat) (ys : List Int) (O4 O5 : Nat → Prop), v128 = .int .i64 q ∧ Aside0 (q ≤ n3 ∧ kq = n3 - q) ∧ Aside0 (M8 w.heap.size W hb (addP S z.f2) ((i + 1 : Nat) : Int) O4 g (layR sl j ⟨lv + 1, z.f2⟩) (lv + 1) O5 go #[.int .i64 z.f0, .int .i64 z.f1, .slice A1 n3 c1] (.slice A3 n3 c3) ys) ∧ Aside0 (Below w.heap.size w W))
          case atStart => exact ⟨0, _, _, _, rfl, ⟨by omega, by omega⟩, HM, HB⟩
          case round =>
            clear HM HB
            obtain ⟨q, ys, O4, O5, rfl, HI3, HM, HB⟩ := hrel
            by_cases hi3 : q < n3
            · have q2 : decide ((q : Int) < (n3 : Int)) = true := decide_eq_true (by omega)
              have i0 : (0 : Int) ≤ (q : Int) := by omega
              have i1 : (q : Int) < (n3 : Int) := by omega
              have i2 : ((q : Int)).toNat = q := by omega
              obtain ⟨b, eA, hb3⟩ := rowb HM.out.env.row (by omega)
              subst eA
              obtain ⟨y0, y1⟩ := Kd.R_celln 0 HM.out.env.row (q : Int) i0 i1
              rw [i2] at y0 y1
              have HM2 := Aside0.mk (HM.out.put q 238)
              have HB2 := Aside0.mk (HB.out.setCell (show w.heap.size ≤ (⟨b, q, none⟩ : Addr).block from hb3) (.int .u8 238))
              clear hb3
              go_wp2
              go_roundg (n3 - (q + 1))
              case measure => have := HI3.out; omega
              case rel => exact ⟨q + 1, _, _, _, congrArg (Value.int .i64) (by have := HN3.out; simp only [wrap64]; omega), ⟨by omega, rfl⟩, HM2, HB2⟩
            · have q2 : decide ((q : Int) < (n3 : Int)) = false := decide_eq_false (by omega)
              have y1 : wr.cell? ⟨go, 1, none⟩ = some (.int .i64 z.f1) := (blk_cell HM.out.env.blk 1).trans rfl
              have HJ8 : Aside0 (J8 w.heap.size wr hb (addP S z.f2) ((i + 1 : Nat) : Int) O4 g (layR sl j ⟨lv + 1, z.f2⟩) O5) := ⟨⟨HM.out.h, by rw [HLL.out]; exact HM.out.r, HRL.out, HTR.out, HM.out.dis⟩⟩
              go_wp2_with (first | (go_at_call 24; (with_reducible refine (shown_calls HJ8.out HNI2.out z.f1 HQ1.out.2.1).mono ?_); rintro e w9 ⟨rfl, hb9⟩; have HJ9 := Aside0.mk (HJ8.out.below hb9); have HB9 := Aside0.mk (HB.out.trans (hb9.mono HB.out.size)); clear hb9))
              go_roundg (n - (i + 1))
              case measure => have := HI.out; omega
              case rel => exact ⟨i + 1, (addP S z.f2), O4, (layR sl j ⟨lv + 1, z.f2⟩), O5, congrArg (Value.int .i64) (by have := HI.out; have := HN.out; simp only [wrap64]; omega), ⟨by omega, rfl⟩, HJ9, ⟨by have := HSL.out; have := HLS.out; omega⟩, HB9⟩
      · obtain ⟨bo, hbo⟩ : ∃ bo, (findP S z.f1).isSome = bo := ⟨_, rfl⟩
        have HBO := Aside0.mk hbo
        have HDE := Aside0.mk (fun r => drop_eq HINV.out HREL.out HTRM.out z.f1 r)
        have HTR := Aside0.mk (trim_drop HINV.out HTRM.out z.f1)
        clear hbo
        go_upto_region 22 with (fail)
        go_region_law (first
          | (go_simp; go_at_call 10; refine ((HM.out.below ?cb).drop HNP.out z.f1 HQ1.out.2.1).mono ?_; (case cb => (repeat (first | exact Below.refl _ _ | apply below_alloc | apply pw_below_drewN | apply below_drew1))); rintro e w4 ⟨he, hg⟩; rw [HBO.out] at he; subst he; obtain ⟨O', O2', hm, hbl⟩ := hg; have hM := Aside0.mk hm; have n1_ := (Aside0.mk (Below.trans (b := _) (by first | exact HB.out | exact below_drew HB.out) hbl) : Aside0 (Below w.heap.size w w4)); clear HM HB hbl hm; have HM := hM; have HB := n1_; clear hM n1_; have y1 : w4.cell? ⟨go, 1, none⟩ = some (.int .i64 z.f1) := (blk_cell HM.out.env.blk 1).trans rfl; have y2 : w4.cell? ⟨go, 2, none⟩ = some (.slice A1 z.f2.length c1) := (blk_cell HM.out.env.blk 2).trans rfl)
          | (go_simp; go_at_call 19; refine ((HM.out.below ?cb).dropR HBD.out z.f1).mono ?_; (case cb => (repeat (first | exact Below.refl _ _ | apply below_alloc | apply pw_below_drewN | apply below_drew1))); rintro e w5 ⟨r, hr, he, hg⟩; obtain ⟨d1, d2, d3⟩ := HDE.out r hr; rw [d1, HBO.out] at he; subst he; have HRL := Aside0.mk d2; obtain ⟨sl5, hs5⟩ : ∃ sl5, (if r ≥ 0 then sl.set r.toNat (⟨0, []⟩ : S51) else sl) = sl5 := ⟨_, rfl⟩; have HSL5 : Aside0 (sl5.length ≤ sl.length + 1) := ⟨by rw [← hs5]; split <;> simp <;> omega⟩; rw [hs5] at hg HRL; clear hr d1 d2 d3 hs5; obtain ⟨O', O2', hm, hbl⟩ := hg; have hM := Aside0.mk hm; have n1_ := (Aside0.mk (Below.trans (b := _) (by first | exact HB.out | exact below_drew HB.out) hbl) : Aside0 (Below w.heap.size w w5)); clear HM HB hbl hm; have HM := hM; have HB := n1_; clear hM n1_; have y1 : w5.cell? ⟨go, 1, none⟩ = some (.int .i64 z.f1) := (blk_cell HM.out.env.blk 1).trans rfl; have y2 : w5.cell? ⟨go, 2, none⟩ = some (.slice A1 z.f2.length c1) := (blk_cell HM.out.env.blk 2).trans rfl))
        all_goals
          have HLS := HSL5
          have n9_ := Aside0.mk (show M8 _ _ _ _ (((i + 1 : Nat)) : Int) _ _ _ _ _ _ _ _ _ from ⟨HM.out.h.mono (by omega), HM.out.r, HM.out.dis, HM.out.env⟩)
          clear HM
          have HM := n9_
          clear n9_
          have HLL : Aside0 ((dropP S z.f1).last = lv) := ⟨by rw [drop_last, HLV.out]⟩
          go_upto_region 33 with (fail)
          have hst1 : Sem.run Try.prog (convert 27 9 (.slice A3 z.f2.length c3)) w5 = .ok (.string (strOfNums z.f2)) w5 := Kd.C_string (P := Try.prog) (xs := z.f2) Try.underlying27 Try.underlying5 Try.underlying9 (Kd.R_reads' HM.out.env.row).2.2
          have hst2 : Sem.run Try.prog (convert 27 9 (.slice A1 z.f2.length c1)) w5 = .ok (.string (strOfNums z.f2)) w5 := Kd.C_string (P := Try.prog) (xs := z.f2) Try.underlying27 Try.underlying5 Try.underlying9 (HK1.out w5 HB.out)
          obtain ⟨n3, hn3⟩ : ∃ n3, z.f2.length = n3 := ⟨_, rfl⟩
          have HN3 : Aside0 (n3 ≤ 140737488355328) := ⟨by rw [← hn3]; exact HNL.out⟩
          rw [hn3] at hst1 hst2 y2 HM
          rw [hn3]
          clear hn3
          go_wp2
          clear hst1 hst2 y1 y2
          go_loopg [128] n3 (fun kq v128 W => ∃ (q : Nat) (ys : List Int) (O4 O5 : Nat → Prop), v128 = .int .i64 q ∧ Aside0 (q ≤ n3 ∧ kq = n3 - q) ∧ Aside0 (M8 w.heap.size W hb (dropP S z.f1) ((i + 1 : Nat) : Int) O4 g sl5 lv O5 go #[.int .i64 z.f0, .int .i64 z.f1, .slice A1 n3 c1] (.slice A3 n3 c3) ys) ∧ Aside0 (Below w.heap.size w W))
          case atStart => exact ⟨0, _, _, _, rfl, ⟨by omega, by omega⟩, HM, HB⟩
          case round =>
            clear HM HB
            obtain ⟨q, ys, O4, O5, rfl, HI3, HM, HB⟩ := hrel
            by_cases hi3 : q < n3
            · have q2 : decide ((q : Int) < (n3 : Int)) = true := decide_eq_true (by omega)
              have i0 : (0 : Int) ≤ (q : Int) := by omega
              have i1 : (q : Int) < (n3 : Int) := by omega
              have i2 : ((q : Int)).toNat = q := by omega
              obtain ⟨b, eA, hb3⟩ := rowb HM.out.env.row (by omega)
              subst eA
              obtain ⟨y0, y1⟩ := Kd.R_celln 0 HM.out.env.row (q : Int) i0 i1
              rw [i2] at y0 y1
              have HM2 := Aside0.mk (HM.out.put q 238)
              have HB2 := Aside0.mk (HB.out.setCell (show w.heap.size ≤ (⟨b, q, none⟩ : Addr).block from hb3) (.int .u8 238))
              clear hb3
              go_wp2
              go_roundg (n3 - (q + 1))
              case measure => have := HI3.out; omega
              case rel => exact ⟨q + 1, _, _, _, congrArg (Value.int .i64) (by have := HN3.out; simp only [wrap64]; omega), ⟨by omega, rfl⟩, HM2, HB2⟩
            · have q2 : decide ((q : Int) < (n3 : Int)) = false := decide_eq_false (by omega)
              have y1 : wr.cell? ⟨go, 1, none⟩ = some (.int .i64 z.f1) := (blk_cell HM.out.env.blk 1).trans rfl
              have HJ8 : Aside0 (J8 w.heap.size wr hb (dropP S z.f1) ((i + 1 : Nat) : Int) O4 g sl5 O5) := ⟨⟨HM.out.h, by rw [HLL.out]; exact HM.out.r, HRL.out, HTR.out, HM.out.dis⟩⟩
              go_wp2_with (first | (go_at_call 24; (with_reducible refine (shown_calls HJ8.out HNI2.out z.f1 HQ1.out.2.1).mono ?_); rintro e w9 ⟨rfl, hb9⟩; have HJ9 := Aside0.mk (HJ8.out.below hb9); have HB9 := Aside0.mk (HB.out.trans (hb9.mono HB.out.size)); clear hb9))
              go_roundg (n - (i + 1))
              case measure => have := HI.out; omega
              case rel => exact ⟨i + 1, (dropP S z.f1), O4, sl5, O5, congrArg (Value.int .i64) (by have := HI.out; have := HN.out; simp only [wrap64]; omega), ⟨by omega, rfl⟩, HJ9, ⟨by have := HSL.out; have := HLS.out; omega⟩, HB9⟩
      · obtain ⟨bo, hbo⟩ : ∃ bo, (findP S z.f1).isSome = bo := ⟨_, rfl⟩
        have HBO := Aside0.mk hbo
        have HDE := Aside0.mk (fun r => drop_eq HINV.out HREL.out HTRM.out z.f1 r)
        have HTR := Aside0.mk (trim_drop HINV.out HTRM.out z.f1)
        clear hbo
        go_upto_region 22 with (fail)
        go_region_law (first
          | (go_simp; go_at_call 10; refine ((HM.out.below ?cb).drop HNP.out z.f1 HQ1.out.2.1).mono ?_; (case cb => (repeat (first | exact Below.refl _ _ | apply below_alloc | apply pw_below_drewN | apply below_drew1))); rintro e w4 ⟨he, hg⟩; rw [HBO.out] at he; subst he; obtain ⟨O', O2', hm, hbl⟩ := hg; have hM := Aside0.mk hm; have n1_ := (Aside0.mk (Below.trans (b := _) (by first | exact HB.out | exact below_drew HB.out) hbl) : Aside0 (Below w.heap.size w w4)); clear HM HB hbl hm; have HM := hM; have HB := n1_; clear hM n1_; have y1 : w4.cell? ⟨go, 1, none⟩ = some (.int .i64 z.f1) := (blk_cell HM.out.env.blk 1).trans rfl; have y2 : w4.cell? ⟨go, 2, none⟩ = some (.slice A1 z.f2.length c1) := (blk_cell HM.out.env.blk 2).trans rfl)
          | (go_simp; go_at_call 19; refine ((HM.out.below ?cb).dropR HBD.out z.f1).mono ?_; (case cb => (repeat (first | exact Below.refl _ _ | apply below_alloc | apply pw_below_drewN | apply below_drew1))); rintro e w5 ⟨r, hr, he, hg⟩; obtain ⟨d1, d2, d3⟩ := HDE.out r hr; rw [d1, HBO.out] at he; subst he; have HRL := Aside0.mk d2; obtain ⟨sl5, hs5⟩ : ∃ sl5, (if r ≥ 0 then sl.set r.toNat (⟨0, []⟩ : S51) else sl) = sl5 := ⟨_, rfl⟩; have HSL5 : Aside0 (sl5.length ≤ sl.length + 1) := ⟨by rw [← hs5]; split <;> simp <;> omega⟩; rw [hs5] at hg HRL; clear hr d1 d2 d3 hs5; obtain ⟨O', O2', hm, hbl⟩ := hg; have hM := Aside0.mk hm; have n1_ := (Aside0.mk (Below.trans (b := _) (by first | exact HB.out | exact below_drew HB.out) hbl) : Aside0 (Below w.heap.size w w5)); clear HM HB hbl hm; have HM := hM; have HB := n1_; clear hM n1_; have y1 : w5.cell? ⟨go, 1, none⟩ = some (.int .i64 z.f1) := (blk_cell HM.out.env.blk 1).trans rfl; have y2 : w5.cell? ⟨go, 2, none⟩ = some (.slice A1 z.f2.length c1) := (blk_cell HM.out.env.blk 2).trans rfl))
        all_goals
          have HLS := HSL5
          have n9_ := Aside0.mk (show M8 _ _ _ _ (((i + 1 : Nat)) : Int) _ _ _ _ _ _ _ _ _ from ⟨HM.out.h.mono (by omega), HM.out.r, HM.out.dis, HM.out.env⟩)
          clear HM
          have HM := n9_
          clear n9_
          have HLL : Aside0 ((dropP S z.f1).last = lv) := ⟨by rw [drop_last, HLV.out]⟩
          go_upto_region 33 with (fail)
          have hst1 : Sem.run Try.prog (convert 27 9 (.slice A3 z.f2.length c3)) w5 = .ok (.string (strOfNums z.f2)) w5 := Kd.C_string (P := Try.prog) (xs := z.f2) Try.underlying27 Try.underlying5 Try.underlying9 (Kd.R_reads' HM.out.env.row).2.2
          have hst2 : Sem.run Try.prog (convert 27 9 (.slice A1 z.f2.length c1)) w5 = .ok (.string (strOfNums z.f2)) w5 := Kd.C_string (P := Try.prog) (xs := z.f2) Try.underlying27 Try.underlying5 Try.underlying9 (HK1.out w5 HB.out)
          obtain ⟨n3, hn3⟩ : ∃ n3, z.f2.length = n3 := ⟨_, rfl⟩
          have HN3 : Aside0 (n3 ≤ 140737488355328) := ⟨by rw [← hn3]; exact HNL.out⟩
          rw [hn3] at hst1 hst2 y2 HM
          rw [hn3]
          clear hn3
          go_wp2
          clear hst1 hst2 y1 y2
          go_loopg [128] n3 (fun kq v128 W => ∃ (q : Nat) (ys : List Int) (O4 O5 : Nat → Prop), v128 = .int .i64 q ∧ Aside0 (q ≤ n3 ∧ kq = n3 - q) ∧ Aside0 (M8 w.heap.size W hb (dropP S z.f1) ((i + 1 : Nat) : Int) O4 g sl5 lv O5 go #[.int .i64 z.f0, .int .i64 z.f1, .slice A1 n3 c1] (.slice A3 n3 c3) ys) ∧ Aside0 (Below w.heap.size w W))
          case atStart => exact ⟨0, _, _, _, rfl, ⟨by omega, by omega⟩, HM, HB⟩
          case round =>
            clear HM HB
            obtain ⟨q, ys, O4, O5, rfl, HI3, HM, HB⟩ := hrel
            by_cases hi3 : q < n3
            · have q2 : decide ((q : Int) < (n3 : Int)) = true := decide_eq_true (by omega)
              have i0 : (0 : Int) ≤ (q : Int) := by omega
              have i1 : (q : Int) < (n3 : Int) := by omega
              have i2 : ((q : Int)).toNat = q := by omega
              obtain ⟨b, eA, hb3⟩ := rowb HM.out.env.row (by omega)
              subst eA
              obtain ⟨y0, y1⟩ := Kd.R_celln 0 HM.out.env.row (q : Int) i0 i1
              rw [i2] at y0 y1
              have HM2 := Aside0.mk (HM.out.put q 238)
              have HB2 := Aside0.mk (HB.out.setCell (show w.heap.size ≤ (⟨b, q, none⟩ : Addr).block from hb3) (.int .u8 238))
              clear hb3
              go_wp2
              go_roundg (n3 - (q + 1))
              case measure => have := HI3.out; omega
              case rel => exact ⟨q + 1, _, _, _, congrArg (Value.int .i64) (by have := HN3.out; simp only [wrap64]; omega), ⟨by omega, rfl⟩, HM2, HB2⟩
            · have q2 : decide ((q : Int) < (n3 : Int)) = false := decide_eq_false (by omega)
              have y1 : wr.cell? ⟨go, 1, none⟩ = some (.int .i64 z.f1) := (blk_cell HM.out.env.blk 1).trans rfl
              have HJ8 : Aside0 (J8 w.heap.size wr hb (dropP S z.f1) ((i + 1 : Nat) : Int) O4 g sl5 O5) := ⟨⟨HM.out.h, by rw [HLL.out]; exact HM.out.r, HRL.out, HTR.out, HM.out.dis⟩⟩
              go_wp2_with (first | (go_at_call 24; (with_reducible refine (shown_calls HJ8.out HNI2.out z.f1 HQ1.out.2.1).mono ?_); rintro e w9 ⟨rfl, hb9⟩; have HJ9 := Aside0.mk (HJ8.out.below hb9); have HB9 := Aside0.mk (HB.out.trans (hb9.mono HB.out.size)); clear hb9))
              go_roundg (n - (i + 1))
              case measure => have := HI.out; omega
              case rel => exact ⟨i + 1, (dropP S z.f1), O4, sl5, O5, congrArg (Value.int .i64) (by have := HI.out; have := HN.out; simp only [wrap64]; omega), ⟨by omega, rfl⟩, HJ9, ⟨by have := HSL.out; have := HLS.out; omega⟩, HB9⟩
      · obtain ⟨j, hj, hrl, htr, hjl⟩ := back_eq HINV.out HREL.out HTRM.out z.f1 z.f2
        have hlb := back_last S z.f1 z.f2
        obtain ⟨bk, hbk⟩ : ∃ bk, backB S z.f1 = bk := ⟨_, rfl⟩
        rw [hbk] at hrl htr hlb
        have HBK := Aside0.mk hbk
        obtain ⟨S4, hS4⟩ : ∃ S4, (if bk = true then layP S z.f1 z.f2 else S) = S4 := ⟨_, rfl⟩
        obtain ⟨sl4, hs4⟩ : ∃ sl4, (if bk = true then layR sl j (⟨z.f1, z.f2⟩ : S51) else sl) = sl4 := ⟨_, rfl⟩
        have HS4 := Aside0.mk hS4
        have HSL4 := Aside0.mk hs4
        rw [hS4] at hrl htr hlb
        rw [hs4] at hrl
        have HJJ := Aside0.mk hj
        have HRL := Aside0.mk hrl
        have HTR := Aside0.mk htr
        have HLS : Aside0 (sl4.length ≤ sl.length + 1) := ⟨by rw [← hs4]; split; (exact (layR_len sl j _ hjl).2.2); omega⟩
        have HLL0 : Aside0 (S4.last = lv) := ⟨hlb.trans HLV.out⟩
        clear hj hrl htr hjl hlb hbk hS4 hs4
        go_upto_region 25 with (fail)
        go_region_law (first
          | (go_simp; go_at_call 16; refine ((HM.out.below ?cb).back HNP.out z.f1 HQ1.out.2.1 HNL.out).mono ?_; (case cb => (repeat (first | exact Below.refl _ _ | apply below_alloc | apply pw_below_drewN | apply below_drew1))); rintro e w4 ⟨he, hg⟩; rw [HBK.out] at he hg; rw [HS4.out] at hg; subst he; obtain ⟨O', O2', hm, hbl⟩ := hg; have hM := Aside0.mk hm; have n1_ := (Aside0.mk (Below.trans (b := _) (by first | exact HB.out | exact below_drew HB.out) hbl) : Aside0 (Below w.heap.size w w4)); clear HM HB hbl hm; have HM := hM; have HB := n1_; clear hM n1_; have y1 : w4.cell? ⟨go, 1, none⟩ = some (.int .i64 z.f1) := (blk_cell HM.out.env.blk 1).trans rfl; have y2 : w4.cell? ⟨go, 2, none⟩ = some (.slice A1 z.f2.length c1) := (blk_cell HM.out.env.blk 2).trans rfl)
          | (go_simp; go_at_call 20; refine ((HM.out.below ?cb).backR HINV.out HREL.out HLV.out HBD.out z.f1 rfl HL1.out ?cc HNL.out HJJ.out).mono ?_; (case cb => (repeat (first | exact Below.refl _ _ | apply below_alloc | apply pw_below_drewN | apply below_drew1))); (case cc => exact fun W hk => C_blocks (HK1.out w (Below.refl _ _)) fun k hkb => (hk k hkb).trans ((by first | exact HB.out | exact below_drew HB.out : Below w.heap.size w _).block k hkb)); rintro e w5 ⟨he, hg⟩; rw [HBK.out] at he hg; rw [HSL4.out] at hg; subst he; obtain ⟨O', O2', hm, hbl⟩ := hg; have hM := Aside0.mk hm; have n1_ := (Aside0.mk (Below.trans (b := _) (by first | exact HB.out | exact below_drew HB.out) hbl) : Aside0 (Below w.heap.size w w5)); clear HM HB hbl hm; have HM := hM; have HB := n1_; clear hM n1_; have y1 : w5.cell? ⟨go, 1, none⟩ = some (.int .i64 z.f1) := (blk_cell HM.out.env.blk 1).trans rfl; have y2 : w5.cell? ⟨go, 2, none⟩ = some (.slice A1 z.f2.length c1) := (blk_cell HM.out.env.blk 2).trans rfl))
        all_goals
          have HLL := HLL0
          go_upto_region 33 with (fail)
          have hst1 : Sem.run Try.prog (convert 27 9 (.slice A3 z.f2.length c3)) w5 = .ok (.string (strOfNums z.f2)) w5 := Kd.C_string (P := Try.prog) (xs := z.f2) Try.underlying27 Try.underlying5 Try.underlying9 (Kd.R_reads' HM.out.env.row).2.2
          have hst2 : Sem.run Try.prog (convert 27 9 (.slice A1 z.f2.length c1)) w5 = .ok (.string (strOfNums z.f2)) w5 := Kd.C_string (P := Try.prog) (xs := z.f2) Try.underlying27 Try.underlying5 Try.underlying9 (HK1.out w5 HB.out)
          obtain ⟨n3, hn3⟩ : ∃ n3, z.f2.length = n3 := ⟨_, rfl⟩
          have HN3 : Aside0 (n3 ≤ 140737488355328) := ⟨by rw [← hn3]; exact HNL.out⟩
          rw [hn3] at hst1 hst2 y2 HM
          rw [hn3]
          clear hn3
          go_wp2
          clear hst1 hst2 y1 y2
          go_loopg [128] n3 (fun kq v128 W => ∃ (q : Nat) (ys : List Int) (O4 O5 : Nat → Prop), v128 = .int .i64 q ∧ Aside0 (q ≤ n3 ∧ kq = n3 - q) ∧ Aside0 (M8 w.heap.size W hb S4 ((i + 1 : Nat) : Int) O4 g sl4 lv O5 go #[.int .i64 z.f0, .int .i64 z.f1, .slice A1 n3 c1] (.slice A3 n3 c3) ys) ∧ Aside0 (Below w.heap.size w W))
          case atStart => exact ⟨0, _, _, _, rfl, ⟨by omega, by omega⟩, HM, HB⟩
          case round =>
            clear HM HB
            obtain ⟨q, ys, O4, O5, rfl, HI3, HM, HB⟩ := hrel
            by_cases hi3 : q < n3
            · have q2 : decide ((q : Int) < (n3 : Int)) = true := decide_eq_true (by omega)
              have i0 : (0 : Int) ≤ (q : Int) := by omega
              have i1 : (q : Int) < (n3 : Int) := by omega
              have i2 : ((q : Int)).toNat = q := by omega
              obtain ⟨b, eA, hb3⟩ := rowb HM.out.env.row (by omega)
              subst eA
              obtain ⟨y0, y1⟩ := Kd.R_celln 0 HM.out.env.row (q : Int) i0 i1
              rw [i2] at y0 y1
              have HM2 := Aside0.mk (HM.out.put q 238)
              have HB2 := Aside0.mk (HB.out.setCell (show w.heap.size ≤ (⟨b, q, none⟩ : Addr).block from hb3) (.int .u8 238))
              clear hb3
              go_wp2
              go_roundg (n3 - (q + 1))
              case measure => have := HI3.out; omega
              case rel => exact ⟨q + 1, _, _, _, congrArg (Value.int .i64) (by have := HN3.out; simp only [wrap64]; omega), ⟨by omega, rfl⟩, HM2, HB2⟩
            · have q2 : decide ((q : Int) < (n3 : Int)) = false := decide_eq_false (by omega)
              have y1 : wr.cell? ⟨go, 1, none⟩ = some (.int .i64 z.f1) := (blk_cell HM.out.env.blk 1).trans rfl
              have HJ8 : Aside0 (J8 w.heap.size wr hb S4 ((i + 1 : Nat) : Int) O4 g sl4 O5) := ⟨⟨HM.out.h, by rw [HLL.out]; exact HM.out.r, HRL.out, HTR.out, HM.out.dis⟩⟩
              go_wp2_with (first | (go_at_call 24; (with_reducible refine (shown_calls HJ8.out HNI2.out z.f1 HQ1.out.2.1).mono ?_); rintro e w9 ⟨rfl, hb9⟩; have HJ9 := Aside0.mk (HJ8.out.below hb9); have HB9 := Aside0.mk (HB.out.trans (hb9.mono HB.out.size)); clear hb9))
              go_roundg (n - (i + 1))
              case measure => have := HI.out; omega
              case rel => exact ⟨i + 1, S4, O4, sl4, O5, congrArg (Value.int .i64) (by have := HI.out; have := HN.out; simp only [wrap64]; omega), ⟨by omega, rfl⟩, HJ9, ⟨by have := HSL.out; have := HLS.out; omega⟩, HB9⟩
      · cases hf : findP S z.f1 with
        | none =>
          have HF := Aside0.mk hf
          clear hf
          have n9_ : Aside0 (M8 _ _ _ _ (((i + 1 : Nat)) : Int) _ _ _ _ _ _ _ _ _) := ⟨⟨HM.out.h.mono (by omega), HM.out.r, HM.out.dis, HM.out.env⟩⟩
          clear HM
          have HM := n9_
          clear n9_
          have HRL : Aside0 (Rel (setP S z.f1 z.f2) sl) := ⟨by rw [setP_none HF.out]; exact HREL.out⟩
          have HTR : Aside0 (Trim (setP S z.f1 z.f2)) := HTRM
          have HLL : Aside0 ((setP S z.f1 z.f2).last = lv) := HLV
          have HLS : Aside0 (sl.length ≤ sl.length + 1) := ⟨by omega⟩
          go_upto_region 33 with (first
            | (go_at_call 21; (with_reducible refine (HM.out.r.find z.f1).mono ?_); rintro e w4 ⟨r, rfl, hr, hb4⟩; have hfr := find_rel HINV.out HREL.out hr; rw [HF.out] at hfr; have hr9 : r = -1 := hfr; subst hr9; clear hfr; have n0_ := Aside0.mk (HM.out.below hb4); have n1_ := Aside0.mk (HB.out.trans (hb4.mono HB.out.size)); clear HM HB hb4 hr; have HM := n0_; have HB := n1_; clear n0_ n1_; have y1 : w4.cell? ⟨go, 1, none⟩ = some (.int .i64 z.f1) := (blk_cell HM.out.env.blk 1).trans rfl; have y2 : w4.cell? ⟨go, 2, none⟩ = some (.slice A1 z.f2.length c1) := (blk_cell HM.out.env.blk 2).trans rfl)
            | (go_at_call 22; (with_reducible refine (HM.out.set z.f1 HQ1.out.2.1 HNL.out).mono ?_); rintro e w5 ⟨he, hg⟩; rw [HF.out] at he; have he2 : e = .returned (.bool false) := he; clear he; subst he2; obtain ⟨O', O2', hm, hbl⟩ := hg; have hM := Aside0.mk hm; have n1_ := Aside0.mk (HB.out.trans hbl); clear HM HB hbl hm; have HM := hM; have HB := n1_; clear hM n1_; have y1 : w5.cell? ⟨go, 1, none⟩ = some (.int .i64 z.f1) := (blk_cell HM.out.env.blk 1).trans rfl; have y2 : w5.cell? ⟨go, 2, none⟩ = some (.slice A1 z.f2.length c1) := (blk_cell HM.out.env.blk 2).trans rfl))
          have hst1 : Sem.run Try.prog (convert 27 9 (.slice A3 z.f2.length c3)) w5 = .ok (.string (strOfNums z.f2)) w5 := Kd.C_string (P := Try.prog) (xs := z.f2) Try.underlying27 Try.underlying5 Try.underlying9 (Kd.R_reads' HM.out.env.row).2.2
          have hst2 : Sem.run Try.prog (convert 27 9 (.slice A1 z.f2.length c1)) w5 = .ok (.string (strOfNums z.f2)) w5 := Kd.C_string (P := Try.prog) (xs := z.f2) Try.underlying27 Try.underlying5 Try.underlying9 (HK1.out w5 HB.out)
          obtain ⟨n3, hn3⟩ : ∃ n3, z.f2.length = n3 := ⟨_, rfl⟩
          have HN3 : Aside0 (n3 ≤ 140737488355328) := ⟨by rw [← hn3]; exact HNL.out⟩
          rw [hn3] at hst1 hst2 y2 HM
          rw [hn3]
          clear hn3
          go_wp2
          clear hst1 hst2 y1 y2
          go_loopg [128] n3 (fun kq v128 W => ∃ (q : Nat) (ys : List Int) (O4 O5 : Nat → Prop), v128 = .int .i64 q ∧ Aside0 (q ≤ n3 ∧ kq = n3 - q) ∧ Aside0 (M8 w.heap.size W hb (setP S z.f1 z.f2) ((i + 1 : Nat) : Int) O4 g sl lv O5 go #[.int .i64 z.f0, .int .i64 z.f1, .slice A1 n3 c1] (.slice A3 n3 c3) ys) ∧ Aside0 (Below w.heap.size w W))
          case atStart => exact ⟨0, _, _, _, rfl, ⟨by omega, by omega⟩, HM, HB⟩
          case round =>
            clear HM HB
            obtain ⟨q, ys, O4, O5, rfl, HI3, HM, HB⟩ := hrel
            by_cases hi3 : q < n3
            · have q2 : decide ((q : Int) < (n3 : Int)) = true := decide_eq_true (by omega)
              have i0 : (0 : Int) ≤ (q : Int) := by omega
              have i1 : (q : Int) < (n3 : Int) := by omega
              have i2 : ((q : Int)).toNat = q := by omega
              obtain ⟨b, eA, hb3⟩ := rowb HM.out.env.row (by omega)
              subst eA
              obtain ⟨y0, y1⟩ := Kd.R_celln 0 HM.out.env.row (q : Int) i0 i1
              rw [i2] at y0 y1
              have HM2 := Aside0.mk (HM.out.put q 238)
              have HB2 := Aside0.mk (HB.out.setCell (show w.heap.size ≤ (⟨b, q, none⟩ : Addr).block from hb3) (.int .u8 238))
              clear hb3
              go_wp2
              go_roundg (n3 - (q + 1))
              case measure => have := HI3.out; omega
              case rel => exact ⟨q + 1, _, _, _, congrArg (Value.int .i64) (by have := HN3.out; simp only [wrap64]; omega), ⟨by omega, rfl⟩, HM2, HB2⟩
            · have q2 : decide ((q : Int) < (n3 : Int)) = false := decide_eq_false (by omega)
              have y1 : wr.cell? ⟨go, 1, none⟩ = some (.int .i64 z.f1) := (blk_cell HM.out.env.blk 1).trans rfl
              have HJ8 : Aside0 (J8 w.heap.size wr hb (setP S z.f1 z.f2) ((i + 1 : Nat) : Int) O4 g sl O5) := ⟨⟨HM.out.h, by rw [HLL.out]; exact HM.out.r, HRL.out, HTR.out, HM.out.dis⟩⟩
              go_wp2_with (first | (go_at_call 24; (with_reducible refine (shown_calls HJ8.out HNI2.out z.f1 HQ1.out.2.1).mono ?_); rintro e w9 ⟨rfl, hb9⟩; have HJ9 := Aside0.mk (HJ8.out.below hb9); have HB9 := Aside0.mk (HB.out.trans (hb9.mono HB.out.size)); clear hb9))
              go_roundg (n - (i + 1))
              case measure => have := HI.out; omega
              case rel => exact ⟨i + 1, (setP S z.f1 z.f2), O4, sl, O5, congrArg (Value.int .i64) (by have := HI.out; have := HN.out; simp only [wrap64]; omega), ⟨by omega, rfl⟩, HJ9, ⟨by have := HSL.out; have := HLS.out; omega⟩, HB9⟩
        | some x =>
          have HF := Aside0.mk hf
          obtain ⟨j, j3, j4, j5⟩ := HREL.out.at_ x (find_some hf).1
          have HRL : Aside0 (Rel (setP S z.f1 z.f2) (sl.set j ⟨idA sl j, z.f2⟩)) := ⟨by have := rel_set HINV.out HREL.out hf j3 z.f2; rw [show idA sl j = z.f1 from by unfold idA; rw [j5]; exact (find_some hf).2]; exact this⟩
          have HJ3 := Aside0.mk j3
          have HJ4 := Aside0.mk j4
          clear hf j5
          have n9_ : Aside0 (M8 _ _ _ _ (((i + 1 : Nat)) : Int) _ _ _ _ _ _ _ _ _) := ⟨⟨HM.out.h.mono (by omega), HM.out.r, HM.out.dis, HM.out.env⟩⟩
          clear HM
          have HM := n9_
          clear n9_
          have HTR : Aside0 (Trim (setP S z.f1 z.f2)) := HTRM
          have HLL : Aside0 ((setP S z.f1 z.f2).last = lv) := HLV
          have HLS : Aside0 ((sl.set j (⟨idA sl j, z.f2⟩ : S51)).length ≤ sl.length + 1) := ⟨by rw [List.length_set]; omega⟩
          have q3 : decide ((j : Int) ≥ 0) = true := decide_eq_true (by omega)
          clear j3 j4
          go_upto_region 32 with (first
            | (go_at_call 21; (with_reducible refine (HM.out.r.find z.f1).mono ?_); rintro e w4 ⟨r, rfl, hr, hb4⟩; have hfr := find_rel HINV.out HREL.out hr; rw [HF.out] at hfr; have hr9 : r = (j : Int) := hfr.trans HJ3.out; subst hr9; clear hfr; have n0_ := Aside0.mk (HM.out.below hb4); have n1_ := Aside0.mk (HB.out.trans (hb4.mono HB.out.size)); clear HM HB hb4 hr; have HM := n0_; have HB := n1_; clear n0_ n1_; have y1 : w4.cell? ⟨go, 1, none⟩ = some (.int .i64 z.f1) := (blk_cell HM.out.env.blk 1).trans rfl; have y2 : w4.cell? ⟨go, 2, none⟩ = some (.slice A1 z.f2.length c1) := (blk_cell HM.out.env.blk 2).trans rfl)
            | (go_at_call 22; (with_reducible refine (HM.out.set z.f1 HQ1.out.2.1 HNL.out).mono ?_); rintro e w5 ⟨he, hg⟩; rw [HF.out] at he; have he2 : e = .returned (.bool true) := he; clear he; subst he2; obtain ⟨O', O2', hm, hbl⟩ := hg; have hM := Aside0.mk hm; have n1_ := Aside0.mk (HB.out.trans hbl); clear HM HB hbl hm; have HM := hM; have HB := n1_; clear hM n1_; have y1 : w5.cell? ⟨go, 1, none⟩ = some (.int .i64 z.f1) := (blk_cell HM.out.env.blk 1).trans rfl; have y2 : w5.cell? ⟨go, 2, none⟩ = some (.slice A1 z.f2.length c1) := (blk_cell HM.out.env.blk 2).trans rfl))
          obtain ⟨⟨vs, ha⟩, hro, hrb, hrd⟩ := HM.out.r
          obtain ⟨b, cap, cur, hvb, hOb, hcur, hsz⟩ := slots_form ha.slots (by have := HJ4.out; omega)
          subst hvb
          have HA := Aside0.mk ha
          have HRO := Aside0.mk hro
          have HRB := Aside0.mk hrb
          have HRD := Aside0.mk hrd
          have HCUR := Aside0.mk hcur
          obtain ⟨ln, hln⟩ : ∃ ln, sl.length = ln := ⟨_, rfl⟩
          have HLN2 := Aside0.mk hln
          have hj4 := HJ4.out
          have hblk := ha.blk
          rw [hln] at hsz hj4 hblk
          have g0 : w5.cell? ⟨g, 0, none⟩ = some (.slice (some ⟨b, 0, none⟩) ln cap) := (blk_cell hblk 0).trans rfl
          obtain ⟨o1, z1⟩ : ∃ o1, w5.cell? ⟨b, j * 2 + 1, none⟩ = some o1 := ⟨_, (blk_cell hcur (j * 2 + 1)).trans (Array.getElem?_eq_getElem (by omega))⟩
          have u5 : w5.frozen? ⟨b, j * 2 + 1, none⟩ = false := frozen_of_row w5 b _ _ 51 hcur
          have k0 : (0 : Int) ≤ (j : Int) := by omega
          have k1 : (j : Int) < (ln : Int) := by omega
          have k2 : ((j : Int)).toNat = j := by omega
          clear ha hro hrb hrd hcur hsz hln hj4 hblk hOb
          go_region_law (go_simp; go_at_call 15; refine (copy_calls A1 _ c1 _ _ rfl HL1.out HNL.out (HK1.out _ (by first | exact HB.out | exact below_drew HB.out))).mono ?_; rintro e w6 ⟨v6, rfl, hR6, hb6⟩; obtain ⟨A6, c6, ev6⟩ := Kd.R_slice hR6; subst ev6; have hb6' : Below w5.heap.size w5 w6 := un_drew hb6; have HR6 := Aside0.mk hR6; have HB6 := Aside0.mk hb6'; have g6 : w6.cell? ⟨g, 0, none⟩ = some (.slice (some ⟨b, 0, none⟩) ln cap) := (hb6'.cell (World.block_lt_of_cell? w5 _ g0)).trans g0; have z6 : w6.cell? ⟨b, j * 2 + 1, none⟩ = some o1 := (hb6'.cell (World.block_lt_of_cell? w5 _ z1)).trans z1; have hc6 := (hb6'.block b (blk_lt HCUR.out)).trans HCUR.out; have u6 : w6.frozen? ⟨b, j * 2 + 1, none⟩ = false := frozen_of_row w6 b _ _ 51 hc6; have y26 : w6.cell? ⟨go, 2, none⟩ = some (.slice A1 z.f2.length c1) := (hb6'.cell (World.block_lt_of_cell? w5 _ y2)).trans y2; clear hR6 hb6 hb6' hc6)
          all_goals
            have hnr := row_fin HA.out HRO.out HRB.out HRD.out HB6.out HR6.out j (by rw [HLN2.out]; omega)
            have hM6 := Aside0.mk (HM.out.nr hnr)
            have hB6 := Aside0.mk (HB.out.trans hnr.fr.low)
            clear HM HB hnr y1 y2 g0 g6 z1 z6 u5 u6 y26
            obtain ⟨w7, hw7⟩ : ∃ w7, w6.setCell ⟨b, j * 2 + 1, none⟩ (.slice A6 z.f2.length c6) = w7 := ⟨_, rfl⟩
            rw [hw7] at hM6 hB6
            have HM := hM6
            have HB := hB6
            clear hM6 hB6
            have y1 : w7.cell? ⟨go, 1, none⟩ = some (.int .i64 z.f1) := (blk_cell HM.out.env.blk 1).trans rfl; have y2 : w7.cell? ⟨go, 2, none⟩ = some (.slice A1 z.f2.length c1) := (blk_cell HM.out.env.blk 2).trans rfl
            skip
            go_upto_region 33 with (fail)
            have hst1 : Sem.run Try.prog (convert 27 9 (.slice A3 z.f2.length c3)) w7 = .ok (.string (strOfNums z.f2)) w7 := Kd.C_string (P := Try.prog) (xs := z.f2) Try.underlying27 Try.underlying5 Try.underlying9 (Kd.R_reads' HM.out.env.row).2.2
            have hst2 : Sem.run Try.prog (convert 27 9 (.slice A1 z.f2.length c1)) w7 = .ok (.string (strOfNums z.f2)) w7 := Kd.C_string (P := Try.prog) (xs := z.f2) Try.underlying27 Try.underlying5 Try.underlying9 (HK1.out w7 HB.out)
            obtain ⟨n3, hn3⟩ : ∃ n3, z.f2.length = n3 := ⟨_, rfl⟩
            have HN3 : Aside0 (n3 ≤ 140737488355328) := ⟨by rw [← hn3]; exact HNL.out⟩
            rw [hn3] at hst1 hst2 y2 HM
            rw [hn3]
            rw [hn3] at hw7
            clear hn3
            go_wp2
            clear hw7 hst1 hst2 y1 y2
            go_loopg [128] n3 (fun kq v128 W => ∃ (q : Nat) (ys : List Int) (O4 O5 : Nat → Prop), v128 = .int .i64 q ∧ Aside0 (q ≤ n3 ∧ kq = n3 - q) ∧ Aside0 (M8 w.heap.size W hb (setP S z.f1 z.f2) ((i + 1 : Nat) : Int) O4 g (sl.set j ⟨idA sl j, z.f2⟩) lv O5 go #[.int .i64 z.f0, .int .i64 z.f1, .slice A1 n3 c1] (.slice A3 n3 c3) ys) ∧ Aside0 (Below w.heap.size w W))
            case atStart => exact ⟨0, _, _, _, rfl, ⟨by omega, by omega⟩, HM, HB⟩
            case round =>
              clear HM HB
              obtain ⟨q, ys, O4, O5, rfl, HI3, HM, HB⟩ := hrel
              by_cases hi3 : q < n3
              · have q2 : decide ((q : Int) < (n3 : Int)) = true := decide_eq_true (by omega)
                have i0 : (0 : Int) ≤ (q : Int) := by omega
                have i1 : (q : Int) < (n3 : Int) := by omega
                have i2 : ((q : Int)).toNat = q := by omega
                obtain ⟨b, eA, hb3⟩ := rowb HM.out.env.row (by omega)
                subst eA
                obtain ⟨y0, y1⟩ := Kd.R_celln 0 HM.out.env.row (q : Int) i0 i1
                rw [i2] at y0 y1
                have HM2 := Aside0.mk (HM.out.put q 238)
                have HB2 := Aside0.mk (HB.out.setCell (show w.heap.size ≤ (⟨b, q, none⟩ : Addr).block from hb3) (.int .u8 238))
                clear hb3
                go_wp2
                go_roundg (n3 - (q + 1))
                case measure => have := HI3.out; omega
                case rel => exact ⟨q + 1, _, _, _, congrArg (Value.int .i64) (by have := HN3.out; simp only [wrap64]; omega), ⟨by omega, rfl⟩, HM2, HB2⟩
              · have q2 : decide ((q : Int) < (n3 : Int)) = false := decide_eq_false (by omega)
                have y1 : wr.cell? ⟨go, 1, none⟩ = some (.int .i64 z.f1) := (blk_cell HM.out.env.blk 1).trans rfl
                have HJ8 : Aside0 (J8 w.heap.size wr hb (setP S z.f1 z.f2) ((i + 1 : Nat) : Int) O4 g (sl.set j ⟨idA sl j, z.f2⟩) O5) := ⟨⟨HM.out.h, by rw [HLL.out]; exact HM.out.r, HRL.out, HTR.out, HM.out.dis⟩⟩
                go_wp2_with (first | (go_at_call 24; (with_reducible refine (shown_calls HJ8.out HNI2.out z.f1 HQ1.out.2.1).mono ?_); rintro e w9 ⟨rfl, hb9⟩; have HJ9 := Aside0.mk (HJ8.out.below hb9); have HB9 := Aside0.mk (HB.out.trans (hb9.mono HB.out.size)); clear hb9))
                go_roundg (n - (i + 1))
                case measure => have := HI.out; omega
                case rel => exact ⟨i + 1, (setP S z.f1 z.f2), O4, (sl.set j ⟨idA sl j, z.f2⟩), O5, congrArg (Value.int .i64) (by have := HI.out; have := HN.out; simp only [wrap64]; omega), ⟨by omega, rfl⟩, HJ9, ⟨by have := HSL.out; have := HLS.out; omega⟩, HB9⟩
      · obtain ⟨yb, hyb⟩ : ∃ yb, (behP S z.f1).getD 0 = yb := ⟨_, rfl⟩
        obtain ⟨bb, hbb⟩ : ∃ bb, (behP S z.f1).isSome = bb := ⟨_, rfl⟩
        have HYB := Aside0.mk hyb
        have HBB := Aside0.mk hbb
        clear hyb hbb
        have HRL := HREL
        have HTR := HTRM
        have HLL := HLV
        have HLS : Aside0 (sl.length ≤ sl.length + 1) := ⟨by omega⟩
        have n9_ : Aside0 (M8 _ _ _ _ (((i + 1 : Nat)) : Int) _ _ _ _ _ _ _ _ _) := ⟨⟨HM.out.h.mono (by omega), HM.out.r, HM.out.dis, HM.out.env⟩⟩
        have HNP := HNI2
        clear HM
        have HM := n9_
        clear n9_
        go_upto_region 33 with (first
          | (go_at_call 11; (with_reducible refine (HM.out.behind HNP.out z.f1).mono ?_); rintro e w4 ⟨he, hb4⟩; rw [HYB.out, HBB.out] at he; subst he; have n0_ := Aside0.mk (HM.out.below hb4); have n1_ := Aside0.mk (HB.out.trans (hb4.mono HB.out.size)); clear HM HB hb4; have HM := n0_; have HB := n1_; clear n0_ n1_; have y1 : w4.cell? ⟨go, 1, none⟩ = some (.int .i64 z.f1) := (blk_cell HM.out.env.blk 1).trans rfl; have y2 : w4.cell? ⟨go, 2, none⟩ = some (.slice A1 z.f2.length c1) := (blk_cell HM.out.env.blk 2).trans rfl)
          | (go_at_call 23; (with_reducible refine (HM.out.r.behind z.f1).mono ?_); rintro e w5 ⟨r, he, hr, hb5⟩; obtain ⟨d1, d2⟩ := beh_rel HINV.out HREL.out hr; rw [d2, d1, HYB.out, HBB.out] at he; subst he; have n0_ := Aside0.mk (HM.out.below hb5); have n1_ := Aside0.mk (HB.out.trans (hb5.mono HB.out.size)); clear HM HB hb5 hr d1 d2; have HM := n0_; have HB := n1_; clear n0_ n1_; have y1 : w5.cell? ⟨go, 1, none⟩ = some (.int .i64 z.f1) := (blk_cell HM.out.env.blk 1).trans rfl; have y2 : w5.cell? ⟨go, 2, none⟩ = some (.slice A1 z.f2.length c1) := (blk_cell HM.out.env.blk 2).trans rfl))
        have hst1 : Sem.run Try.prog (convert 27 9 (.slice A3 z.f2.length c3)) w5 = .ok (.string (strOfNums z.f2)) w5 := Kd.C_string (P := Try.prog) (xs := z.f2) Try.underlying27 Try.underlying5 Try.underlying9 (Kd.R_reads' HM.out.env.row).2.2
        have hst2 : Sem.run Try.prog (convert 27 9 (.slice A1 z.f2.length c1)) w5 = .ok (.string (strOfNums z.f2)) w5 := Kd.C_string (P := Try.prog) (xs := z.f2) Try.underlying27 Try.underlying5 Try.underlying9 (HK1.out w5 HB.out)
        obtain ⟨n3, hn3⟩ : ∃ n3, z.f2.length = n3 := ⟨_, rfl⟩
        have HN3 : Aside0 (n3 ≤ 140737488355328) := ⟨by rw [← hn3]; exact HNL.out⟩
        rw [hn3] at hst1 hst2 y2 HM
        rw [hn3]
        clear hn3
        go_wp2
        clear hst1 hst2 y1 y2
        go_loopg [128] n3 (fun kq v128 W => ∃ (q : Nat) (ys : List Int) (O4 O5 : Nat → Prop), v128 = .int .i64 q ∧ Aside0 (q ≤ n3 ∧ kq = n3 - q) ∧ Aside0 (M8 w.heap.size W hb S ((i + 1 : Nat) : Int) O4 g sl lv O5 go #[.int .i64 z.f0, .int .i64 z.f1, .slice A1 n3 c1] (.slice A3 n3 c3) ys) ∧ Aside0 (Below w.heap.size w W))
        case atStart => exact ⟨0, _, _, _, rfl, ⟨by omega, by omega⟩, HM, HB⟩
        case round =>
          clear HM HB
          obtain ⟨q, ys, O4, O5, rfl, HI3, HM, HB⟩ := hrel
          by_cases hi3 : q < n3
          · have q2 : decide ((q : Int) < (n3 : Int)) = true := decide_eq_true (by omega)
            have i0 : (0 : Int) ≤ (q : Int) := by omega
            have i1 : (q : Int) < (n3 : Int) := by omega
            have i2 : ((q : Int)).toNat = q := by omega
            obtain ⟨b, eA, hb3⟩ := rowb HM.out.env.row (by omega)
            subst eA
            obtain ⟨y0, y1⟩ := Kd.R_celln 0 HM.out.env.row (q : Int) i0 i1
            rw [i2] at y0 y1
            have HM2 := Aside0.mk (HM.out.put q 238)
            have HB2 := Aside0.mk (HB.out.setCell (show w.heap.size ≤ (⟨b, q, none⟩ : Addr).block from hb3) (.int .u8 238))
            clear hb3
            go_wp2
            go_roundg (n3 - (q + 1))
            case measure => have := HI3.out; omega
            case rel => exact ⟨q + 1, _, _, _, congrArg (Value.int .i64) (by have := HN3.out; simp only [wrap64]; omega), ⟨by omega, rfl⟩, HM2, HB2⟩
          · have q2 : decide ((q : Int) < (n3 : Int)) = false := decide_eq_false (by omega)
            have y1 : wr.cell? ⟨go, 1, none⟩ = some (.int .i64 z.f1) := (blk_cell HM.out.env.blk 1).trans rfl
            have HJ8 : Aside0 (J8 w.heap.size wr hb S ((i + 1 : Nat) : Int) O4 g sl O5) := ⟨⟨HM.out.h, by rw [HLL.out]; exact HM.out.r, HRL.out, HTR.out, HM.out.dis⟩⟩
            go_wp2_with (first | (go_at_call 24; (with_reducible refine (shown_calls HJ8.out HNI2.out z.f1 HQ1.out.2.1).mono ?_); rintro e w9 ⟨rfl, hb9⟩; have HJ9 := Aside0.mk (HJ8.out.below hb9); have HB9 := Aside0.mk (HB.out.trans (hb9.mono HB.out.size)); clear hb9))
            go_roundg (n - (i + 1))
            case measure => have := HI.out; omega
            case rel => exact ⟨i + 1, S, O4, sl, O5, congrArg (Value.int .i64) (by have := HI.out; have := HN.out; simp only [wrap64]; omega), ⟨by omega, rfl⟩, HJ9, ⟨by have := HSL.out; have := HLS.out; omega⟩, HB9⟩
    · have q1 : decide ((i : Int) < (n : Int)) = false := decide_eq_false (by omega)
      have HNP : Aside0 ((i : Int) ≤ 4000000000000) := ⟨by have := HN.out; have := HI.out; omega⟩
      obtain ⟨ln, hln⟩ : ∃ ln, sl.length = ln := ⟨_, rfl⟩
      have HLN2 := Aside0.mk hln
      have HLB : Aside0 (ln ≤ 4000000000000) := ⟨by have := HSL.out; have := HNP.out; omega⟩
      obtain ⟨⟨vs, ha⟩, _⟩ := HJ.out.r
      obtain ⟨Av, cv, ev, _, _⟩ := Kd.R_reads ha.slots
      subst ev
      have hblk := ha.blk
      rw [hln] at hblk
      have g0 : wr.cell? ⟨g, 0, none⟩ = some (.slice Av ln cv) := (blk_cell hblk 0).trans rfl
      clear ha hblk hln
      go_wp2
      clear g0
      go_loopg [147] ln (fun kq v147 W => ∃ q : Nat, v147 = .int .i64 q ∧ Aside0 (q ≤ ln ∧ kq = ln - q) ∧ Aside0 (J8 w.heap.size W hb S i O g sl O2) ∧ Aside0 (Below w.heap.size w W))
      case atStart => exact ⟨0, rfl, ⟨by omega, by omega⟩, HJ, HB⟩
      case round =>
        clear HJ HB
        obtain ⟨q, rfl, HI3, HJ, HB⟩ := hrel
        by_cases hq : q < ln
        · have q2 : decide ((q : Int) < (ln : Int)) = true := decide_eq_true (by omega)
          have i0 : (0 : Int) ≤ (q : Int) := by omega
          have i1 : (q : Int) < (ln : Int) := by omega
          have i2 : ((q : Int)).toNat = q := by omega
          obtain ⟨⟨vs, ha⟩, _⟩ := HJ.out.r
          obtain ⟨Av, cv, ev, _, hCv⟩ := Kd.R_reads ha.slots
          subst ev
          obtain ⟨ad, eA, x0⟩ := at51 hCv q (by rw [HLN2.out]; exact hq)
          subst eA
          have hblk := ha.blk
          rw [HLN2.out] at hblk
          have g0 : wr.cell? ⟨g, 0, none⟩ = some (.slice (some ad) ln cv) := (blk_cell hblk 0).trans rfl
          have hid := rel_id HJ.out.h.inv HJ.out.rel q (by rw [HLN2.out]; exact hq)
          have hI := HJ.out.h.inv
          obtain ⟨y, hy⟩ : ∃ y, idA sl q = y := ⟨_, rfl⟩
          have HY : Aside0 (I64 y) := ⟨by
            rcases hid with h1 | ⟨e, he, _, h2⟩
            · rw [hy] at h1; rw [h1]; exact ⟨by decide, by decide⟩
            · unfold idA at hy
              rw [h2] at hy
              have h3 : e.id = y := hy
              have h4 := hI.idr e he
              have h5 := hI.bd
              have h6 := HNP.out
              exact ⟨by omega, by omega⟩⟩
          rw [hy] at x0
          clear ha hCv hblk hid hI hy
          by_cases hy0 : y > 0
          · have q3 : decide (y > 0) = true := decide_eq_true hy0
            clear hy0
            go_wp2_with (first | (go_at_call 24; (with_reducible refine (shown_calls HJ.out HNP.out y HY.out).mono ?_); rintro e w9 ⟨rfl, hb9⟩; have HJ9 := Aside0.mk (HJ.out.below hb9); have HB9 := Aside0.mk (HB.out.trans (hb9.mono HB.out.size)); clear hb9))
            go_roundg (ln - (q + 1))
            case measure => have := HI3.out; omega
            case rel => exact ⟨q + 1, congrArg (Value.int .i64) (by have := HLB.out; simp only [wrap64]; omega), ⟨by omega, rfl⟩, HJ9, HB9⟩
          · have q3 : decide (y > 0) = false := decide_eq_false hy0
            clear hy0
            go_wp2
            go_roundg (ln - (q + 1))
            case measure => have := HI3.out; omega
            case rel => exact ⟨q + 1, congrArg (Value.int .i64) (by have := HLB.out; simp only [wrap64]; omega), ⟨by omega, rfl⟩, HJ, HB⟩
        · have q2 : decide ((q : Int) < (ln : Int)) = false := decide_eq_false (by omega)
          go_wp2
          go_ret
          exact ⟨rfl, HB.out⟩
end Go.Proofs.Ytgbjilcfgpbcgaa
