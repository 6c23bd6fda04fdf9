import Derived.Test.YtgbjilcfgpbcgaaZpH31
/- Layer 8: shown, walked. -/
namespace Go.Proofs.Ytgbjilcfgpbcgaa
open Go.RowKit Go.Proofs.YtgbjilcfgpbcgaaW.PrintWords Go.Proofs.YtgbjilcfgpbcgaaW.PrintLast Go.Proofs.YtgbjilcfgpbcgaaW.PrintMore
set_option linter.unusedSimpArgs false
set_option linter.unusedVariables false
/-- The heap and the reference's heap, side by side. -/
structure J8 (B : Nat) (w : World) (hb : Nat) (S : St) (N : Int) (O : Nat → Prop) (g : Nat) (sl : List S51) (O2 : Nat → Prop) : Prop where
  h : H8 B w hb S N O
  r : R8 B w g sl S.last O2
  rel : Rel S sl
  trim : Trim S
  dis : ∀ k, O k → ¬ O2 k
theorem J8.below {B : Nat} {w w' : World} {hb : Nat} {S : St} {N : Int} {O : Nat → Prop} {g : Nat} {sl : List S51} {O2 : Nat → Prop} (h : J8 B w hb S N O g sl O2) (hk : Below w.heap.size w w') : J8 B w' hb S N O g sl O2 := ⟨h.h.below hk, h.r.below hk, h.rel, h.trim, h.dis⟩
theorem rowb {w : World} {b n c : Nat} {ok : Nat → Prop} {A : Option Addr} {xs : List Int} (h : kb.R 5 w b ok (.slice A n c) xs) (h0 : 0 < n) : ∃ q, A = some ⟨q, 0, none⟩ ∧ b ≤ q := by
  have ho := Kd.own_of_R h
  rcases ho.2 with ⟨hv, h1⟩ | ⟨q, cap, cur, hv, h1, _⟩
  · injection hv with _ h2 _; omega
  · injection hv with hA _ _
    exact ⟨q, hA, h1⟩
theorem pages_short {N : Int} {S : St} (hI : Inv N S) (hN : N ≤ 4000000000000) : (pagesP S).length ≤ 140737488355328 := by
  rw [pages_len]; have := hI.bd; unfold pagesN; omega
set_option maxHeartbeats 8000000 in
set_option maxRecDepth 100000 in
theorem shown_calls {B : Nat} {w : World} {hb : Nat} {S : St} {N : Int} {O : Nat → Prop} {g : Nat} {sl : List S51} {O2 : Nat → Prop} (h : J8 B w hb S N O g sl O2) (hN : N ≤ 4000000000000) (id : Int) (hid : I64 id) :
    Calls Try.prog 24 #[.pointer (some ⟨hb, 0, none⟩), .pointer (some ⟨g, 0, none⟩), .int .i64 id] w fun e w' => e = .returned (.bool true) ∧ Below w.heap.size w w' := by
  have HINV := Aside0.mk h.h.inv
  have HFR := Aside0.mk (fun r => find_rel h.h.inv h.rel (id := id) (r := r))
  have HLEN := Aside0.mk (len_rel h.h.inv h.rel)
  have HPG := Aside0.mk (pages_rel h.h.inv h.trim h.rel)
  have HPOS := Aside0.mk (rel_pos h.h.inv h.rel)
  have HREL := Aside0.mk h.rel
  have HPS := Aside0.mk (pages_short h.h.inv hN)
  have HN := Aside0.mk hN
  have HID := Aside0.mk hid
  have HB := Aside0.mk (Below.refl w.heap.size w)
  have HJ := Aside0.mk h
  obtain ⟨la, hla⟩ : ∃ la, S.last = la := ⟨_, rfl⟩
  have HLA := Aside0.mk hla
  obtain ⟨ne, hne⟩ : ∃ ne, S.ents.length = ne := ⟨_, rfl⟩
  have HNE := Aside0.mk hne
  obtain ⟨PP, hPP⟩ : ∃ PP, pagesP S = PP := ⟨_, rfl⟩
  have HPP := Aside0.mk hPP
  clear h hN hid hla hne hPP
  obtain ⟨bo, hbo⟩ : ∃ bo, (findP S id).isSome = bo := ⟨_, rfl⟩
  obtain ⟨RW, hRW⟩ : ∃ RW, (findP S id).elim [] Ent.row = RW := ⟨_, rfl⟩
  obtain ⟨p1, hp1⟩ : ∃ p1, (placeP (findP S id)).1 = p1 := ⟨_, rfl⟩
  obtain ⟨p2, hp2⟩ : ∃ p2, (placeP (findP S id)).2 = p2 := ⟨_, rfl⟩
  obtain ⟨n7, hn7⟩ : ∃ n7, RW.length = n7 := ⟨_, rfl⟩
  have HBO := Aside0.mk hbo
  have HRW := Aside0.mk hRW
  have HP1 := Aside0.mk hp1
  have HP2 := Aside0.mk hp2
  have HN7 := Aside0.mk hn7
  have HBR : Aside0 (∀ r, FindRes sl id r → decide (r ≥ 0) = bo) := ⟨fun r hr => by
    have h1 := HFR.out r hr
    rw [← hbo, h1]
    cases hf : findP S id with
    | none => rfl
    | some x => exact decide_eq_true (HINV.out.sl x (find_some hf).1).1⟩
  clear hbo hRW hp1 hp2 hn7
  go_enter Try.func24, Try.ntmps24
  go_upto_region 4 with (first
    | (go_at_call 12; (with_reducible refine (HJ.out.h.get id HID.out).mono ?_); rintro e w1 ⟨v, he, hR, hB2⟩; rw [HBO.out] at he; rw [HRW.out] at hR; obtain ⟨A7, c7, ev⟩ := Kd.R_slice hR; rw [HN7.out] at ev; subst ev; subst he; have HR7 := Aside0.mk hR; have n0_ := Aside0.mk (HJ.out.below hB2); have n1_ := Aside0.mk (HB.out.trans (hB2.mono HB.out.size)); clear HJ HB hB2; have HJ := n0_; have HB := n1_; clear n0_ n1_; clear hR)
    | (go_at_call 17; (with_reducible refine (HJ.out.h.place HN.out id HID.out).mono ?_); rintro e w2 ⟨he, hB2⟩; rw [HP1.out, HP2.out] at he; subst he; have n5_ := Aside0.mk (Kd.R_below HR7.out hB2); clear HR7; have HR7 := n5_; clear n5_; have n0_ := Aside0.mk (HJ.out.below hB2); have n1_ := Aside0.mk (HB.out.trans (hB2.mono HB.out.size)); clear HJ HB hB2; have HJ := n0_; have HB := n1_; clear n0_ n1_)
    | (go_at_call 21; (with_reducible refine (HJ.out.r.find id).mono ?_); rintro e w3 ⟨r, rfl, hr, hB2⟩; have HFQ := Aside0.mk hr; have qq := HBR.out r hr; have n5_ := Aside0.mk (Kd.R_below HR7.out hB2); clear HR7; have HR7 := n5_; clear n5_; have n0_ := Aside0.mk (HJ.out.below hB2); have n1_ := Aside0.mk (HB.out.trans (hB2.mono HB.out.size)); clear HJ HB hB2; have HJ := n0_; have HB := n1_; clear n0_ n1_; clear hr))
  have kk : w3.cell? ⟨g, 1, none⟩ = some (.int .i64 la) := by have := HJ.out.r.cell1.1; rw [HLA.out] at this; exact this
  have HB3 : Aside0 (Below w3.heap.size w3 w3) := ⟨Below.refl _ _⟩
  go_cut [56] (fun v56 wc => v56 = .bool false ∧ Aside0 (J8 B wc hb S N O g sl O2) ∧ Aside0 (Below w.heap.size w wc) ∧ Aside0 (Below w3.heap.size w3 wc))
  case first =>
    go_region_law (first
        | (go_simp; go_at_call 14; refine (H8.len (J8.h (HJ.out.below ?cb))).mono ?_; (case cb => (repeat (first | exact Below.refl _ _ | apply below_alloc | apply pw_below_drewN | apply below_drew1))); rintro e w5 ⟨he, rfl⟩; rw [HNE.out] at he; subst he)
        | (go_simp; go_at_call 33; refine (R8.len (J8.r (HJ.out.below ?cb))).mono ?_; (case cb => (repeat (first | exact Below.refl _ _ | apply below_alloc | apply pw_below_drewN | apply below_drew1))); rintro e w5 ⟨he, hB2⟩; rw [HLEN.out, HNE.out] at he; subst he; have hb9 := (by first | exact un_drew hB2 | exact hB2); have n0_ := Aside0.mk (HJ.out.below hb9); have n1_ := Aside0.mk (HB.out.trans (hb9.mono HB.out.size)); have n3_ := Aside0.mk (HB3.out.trans (hb9.mono HB3.out.size)); clear HJ HB HB3 hB2 hb9; have HJ := n0_; have HB := n1_; have HB3 := n3_; clear n0_ n1_ n3_; have kk := HJ.out.r.cell1.1; rw [HLA.out] at kk)
        | (go_simp; go_at_call 25; refine (H8.last (J8.h (HJ.out.below ?cb))).mono ?_; (case cb => (repeat (first | exact Below.refl _ _ | apply below_alloc | apply pw_below_drewN | apply below_drew1))); rintro e w5 ⟨he, rfl⟩; rw [HLA.out] at he; subst he)
        | (go_simp; go_at_call 13; refine (H8.pages (J8.h (HJ.out.below ?cb)) HN.out).mono ?_; (case cb => (repeat (first | exact Below.refl _ _ | apply below_alloc | apply pw_below_drewN | apply below_drew1))); rintro e w6 ⟨v8, rfl, hR, hB2⟩; rw [HPP.out] at hR; obtain ⟨A8, c8, ev⟩ := Kd.R_slice hR; subst ev; have HR8 := Aside0.mk hR; clear hR; have hb9 := (by first | exact un_drew hB2 | exact hB2); have n0_ := Aside0.mk (HJ.out.below hb9); have n1_ := Aside0.mk (HB.out.trans (hb9.mono HB.out.size)); have n3_ := Aside0.mk (HB3.out.trans (hb9.mono HB3.out.size)); clear HJ HB HB3 hB2 hb9; have HJ := n0_; have HB := n1_; have HB3 := n3_; clear n0_ n1_ n3_; have kk := HJ.out.r.cell1.1; rw [HLA.out] at kk)
        | (go_simp; go_at_call 34; refine (R8.pages (J8.r (HJ.out.below ?cb)) HPOS.out).mono ?_; (case cb => (repeat (first | exact Below.refl _ _ | apply below_alloc | apply pw_below_drewN | apply below_drew1))); rintro e w7 ⟨v9, rfl, hR, hB2⟩; rw [HPG.out, HPP.out] at hR; obtain ⟨A9, c9, ev⟩ := Kd.R_slice hR; subst ev; have HR9 := Aside0.mk hR; have HR8b := Aside0.mk (Kd.R_below HR8.out (by first | exact un_drew hB2 | exact hB2)); clear hR HR8; have hb9 := (by first | exact un_drew hB2 | exact hB2); have n0_ := Aside0.mk (HJ.out.below hb9); have n1_ := Aside0.mk (HB.out.trans (hb9.mono HB.out.size)); have n3_ := Aside0.mk (HB3.out.trans (hb9.mono HB3.out.size)); clear HJ HB HB3 hB2 hb9; have HJ := n0_; have HB := n1_; have HB3 := n3_; clear n0_ n1_ n3_; have kk := HJ.out.r.cell1.1; rw [HLA.out] at kk)
        | (go_simp; go_at_call 26; refine (same_calls A8 A9 PP.length c8 PP.length c9 PP PP _ rfl (Kd.R_reads' HR8b.out).2.1 rfl (Kd.R_reads' HR9.out).2.1 (by rw [← HPP.out]; exact HPS.out) (Kd.R_reads' HR8b.out).2.2 (Kd.R_reads' HR9.out).2.2).mono ?_; rintro e w8 ⟨he, hd⟩; rw [decide_eq_true rfl] at he; subst he; have hB2 := hd.below; clear hd HR8b HR9; have hb9 := (by first | exact un_drew hB2 | exact hB2); have n0_ := Aside0.mk (HJ.out.below hb9); have n1_ := Aside0.mk (HB.out.trans (hb9.mono HB.out.size)); have n3_ := Aside0.mk (HB3.out.trans (hb9.mono HB3.out.size)); clear HJ HB HB3 hB2 hb9; have HJ := n0_; have HB := n1_; have HB3 := n3_; clear n0_ n1_ n3_; have kk := HJ.out.r.cell1.1; rw [HLA.out] at kk))
    all_goals
      go_wp2
      go_meet
      case rel => exact ⟨rfl, HJ, HB, HB3⟩
  case rest =>
    obtain ⟨rfl, HJc, HBc, HB3c⟩ := hcut
    have HR7c := Aside0.mk (Kd.R_below HR7.out HB3c.out)
    clear HJ HB HB3 HR7 kk
    cases hf : findP S id with
    | none =>
      have h1 := HBO.out
      have h2 := HRW.out
      have h3 := HP1.out
      have h4 := HP2.out
      have h5 := HFR.out r HFQ.out
      rw [hf] at h1 h2 h3 h4 h5
      obtain rfl : bo = false := h1.symm
      obtain rfl : RW = [] := h2.symm
      obtain rfl : p1 = -1 := h3.symm
      obtain rfl : p2 = -1 := h4.symm
      obtain rfl : r = -1 := h5
      obtain rfl : n7 = 0 := HN7.out.symm
      clear hf qq
      go_wp2
      go_ret
      exact ⟨rfl, HBc.out⟩
    | some x =>
      have h1 := HBO.out
      have h2 := HRW.out
      have h3 := HP1.out
      have h4 := HP2.out
      have h5 := HFR.out r HFQ.out
      rw [hf] at h1 h2 h3 h4 h5
      obtain ⟨j, j3, j4, j5⟩ := HREL.out.at_ x (find_some hf).1
      obtain rfl : bo = true := h1.symm
      replace h2 : x.row = RW := h2
      replace h3 : x.slot / 16 = p1 := h3
      replace h4 : x.slot % 16 = p2 := h4
      replace h5 : r = x.slot := h5
      rw [j3] at h3 h4 h5
      subst h3 h4 h5
      obtain ⟨⟨vs, ha⟩, _, _, hbd⟩ := HJc.out.r
      obtain ⟨Av, cv, ev, hcv, hCv⟩ := Kd.R_reads ha.slots
      obtain ⟨ln, hln⟩ : ∃ ln, sl.length = ln := ⟨_, rfl⟩
      obtain ⟨ad, A1, c1, ea, x0, x1, l1, hC1⟩ := Go.Proofs.Ytgbjilcfgpbcgaa.B.at_T51 hCv (j : Int) (by omega) (by omega)
      subst ea
      rw [Int.toNat_natCast] at x0 x1
      rw [rd51, j5] at x1 hC1 l1
      have hx1 : wc.cell? ⟨((ad : Addr).add (j * 2)).block, (ad.add (j * 2)).off + 1, none⟩ = some (.slice A1 n7 c1) := by rw [← HN7.out, ← h2]; exact x1
      have hCr : kb.C wc A1 n7 RW := by rw [← HN7.out, ← h2]; exact hC1
      have g0 : wc.cell? ⟨g, 0, none⟩ = some (.slice (some ad) ln cv) := by rw [← hln, ← ev]; exact (blk_cell ha.blk 0).trans rfl
      obtain ⟨T, hT⟩ : ∃ T, strOfNums RW = T := ⟨_, rfl⟩
      have hst1 : Sem.run Try.prog (convert 27 9 (.slice A7 n7 c7)) wc = .ok (.string T) wc := by
        rw [← hT]
        have := Kd.R_reads' HR7c.out
        exact Kd.C_string (P := Try.prog) (xs := RW) Try.underlying27 Try.underlying5 Try.underlying9 (by rw [this.1]; exact this.2.2)
      have hst2 : Sem.run Try.prog (convert 27 9 (.slice A1 n7 c1)) wc = .ok (.string T) wc := by
        rw [← hT]; exact Kd.C_string (P := Try.prog) (xs := RW) Try.underlying27 Try.underlying5 Try.underlying9 hCr
      have hst3 : ∀ q, Sem.run Try.prog (convert 27 9 (.slice A7 n7 c7)) (wc.drewN q) = .ok (.string T) (wc.drewN q) := fun q => by
        rw [← hT]
        have := Kd.R_reads' (Kd.R_drewN HR7c.out q)
        exact Kd.C_string (P := Try.prog) (xs := RW) Try.underlying27 Try.underlying5 Try.underlying9 (by rw [this.1]; exact this.2.2)
      have hst4 : ∀ q, Sem.run Try.prog (convert 27 9 (.slice A1 n7 c1)) (wc.drewN q) = .ok (.string T) (wc.drewN q) := fun q => by
        rw [← hT]; exact Kd.C_string (P := Try.prog) (xs := RW) Try.underlying27 Try.underlying5 Try.underlying9 (Kd.C_below hCr (pw_below_drewN (Below.refl _ _) q))
      have q1 : decide ((j : Int) < 0) = false := decide_eq_false (by omega)
      have j0 : (0 : Int) ≤ (j : Int) := by omega
      have j1 : (j : Int) < (ln : Int) := by omega
      have j2 : ((j : Int)).toNat = j := by omega
      have jb : (j : Int) ≤ 4000000000000 := by omega
      have HN7b : Aside0 (n7 ≤ 140737488355328) := ⟨by rw [← HN7.out, ← h2]; exact HJc.out.h.rows x (find_some hf).1⟩
      clear hf h1 h2 ha hbd ev hcv hCv x1 hC1 hCr l1 j3 j4 j5 hT hln qq x0
      go_upto_region 8 with (fail)
      go_quiet (fail)
      have HR9 := Aside0.mk (Kd.R_drewN HR7c.out nq)
      have HB9 : Aside0 (Below w.heap.size w (wc.drewN nq)) := ⟨pw_below_drewN HBc.out nq⟩
      clear hst1 hst2 hst3 hst4 g0 hx1
      generalize wc.drewN nq = W9 at HR9 HB9 ⊢
      go_wp2
      go_loopg [96] n7 (fun kq v96 W => ∃ (i : Nat) (ys : List Int), v96 = .int .i64 i ∧ Aside0 (i ≤ n7 ∧ kq = n7 - i) ∧ Aside0 (kb.R 5 W w.heap.size (fun _ => True) (.slice A7 n7 c7) ys) ∧ Aside0 (Below w.heap.size w W))
      case atStart => exact ⟨0, RW, rfl, ⟨by omega, by omega⟩, HR9, HB9⟩
      case round =>
        clear HR9 HB9
        obtain ⟨i, ys, rfl, HI, HR, HB⟩ := hrel
        by_cases hi : i < n7
        · have q2 : decide ((i : Int) < (n7 : Int)) = true := decide_eq_true (by omega)
          have i0 : (0 : Int) ≤ (i : Int) := by omega
          have i1 : (i : Int) < (n7 : Int) := by omega
          have i2 : ((i : Int)).toNat = i := by omega
          obtain ⟨q, eA, hq⟩ := rowb HR.out (by omega)
          subst eA
          have hR := HR.out
          obtain ⟨y0, y1⟩ := Kd.R_celln 0 hR (i : Int) i0 i1
          obtain ⟨hR2, _⟩ := Kd.R_putg hR (i : Int) 221
          rw [i2] at y0 y1 hR2
          have HR2 := Aside0.mk hR2
          have HB2 := Aside0.mk (HB.out.setCell (show w.heap.size ≤ (⟨q, i, none⟩ : Addr).block from hq) (.int .u8 221))
          clear hR hR2 hq
          go_wp2
          go_roundg (n7 - (i + 1))
          case measure => have := HI.out; omega
          case rel => exact ⟨i + 1, _, congrArg (Value.int .i64) (by have := HN7b.out; simp only [wrap64]; omega), ⟨by omega, rfl⟩, HR2, HB2⟩
        · have q2 : decide ((i : Int) < (n7 : Int)) = false := decide_eq_false (by omega)
          go_wp2
          go_ret
          exact ⟨rfl, HB.out⟩
end Go.Proofs.Ytgbjilcfgpbcgaa
