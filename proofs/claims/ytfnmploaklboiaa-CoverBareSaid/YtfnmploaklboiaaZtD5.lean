import Derived.Test.YtfnmploaklboiaaZtD3
/- Layer 22: CoverBare, walked. -/
namespace Go.Proofs.Ytfnmploaklboiaa
open Go.RowKit Go.Proofs.YtfnmploaklboiaaW.PrintWords Go.Proofs.YtfnmploaklboiaaW.PrintLast Go.Proofs.YtfnmploaklboiaaW.PrintMore A V
set_option linter.unusedSimpArgs false
set_option linter.unusedVariables false
def noL (x : S33) : Bool := x.f0 != 1
/-- What an instruction is, but for its aim. -/
def keyB (x : S33) : Int × Int × ByteArray := (x.f0, x.f1, x.f5)
theorem cntO_snoc (n : Int) (r : List S33) (x : S33) : cntO [n] (r ++ [x]) = cntO [n] r + if x.f0 = n then 1 else 0 := by
  unfold cntO
  rw [List.countP_append]
  by_cases h : x.f0 = n <;> simp [h]
theorem cntO_len (n : Int) (r : List S33) : cntO [n] r ≤ r.length := List.countP_le_length
/-- The second plan, whose aims are lowered: what its instructions are is K. -/
def Lw (w W : World) (gq : Nat) (t : ByteArray) (g nq cap : Nat) (K : List (Int × Int × ByteArray)) : Prop :=
  ∃ xs, W.heap[gq]? = some (.cells #[.string t, .slice (some ⟨g, 0, none⟩) nq cap] 25 (0, 0)) ∧ (Kd.fixed k33 w).R 33 W w.heap.size (fun _ => True) (.slice (some ⟨g, 0, none⟩) nq cap) xs ∧ Below w.heap.size w W ∧ xs.map keyB = K
theorem Lw.put {w W : World} {gq g nq cap : Nat} {t : ByteArray} {xs : List S33} (h2 : W.heap[gq]? = some (.cells #[.string t, .slice (some ⟨g, 0, none⟩) nq cap] 25 (0, 0)))
    (h3 : (Kd.fixed k33 w).R 33 W w.heap.size (fun _ => True) (.slice (some ⟨g, 0, none⟩) nq cap) xs) (h4 : Below w.heap.size w W) {K : List (Int × Int × ByteArray)} (hk : xs.map keyB = K) (i : Int) (h0 : 0 ≤ i) (h1 : i < nq) (y : S33) (hy : xs.getD i.toNat z33 = y) (j : Int)
    {A7 A8 A11 A13 : Option Addr} {c7 c8 c11 c13 : Nat} (hcc : ∀ j u, (iv y A7 A8 A11 A13 c7 c8 c11 c13).toList[j]? = some u → W.cell? ⟨g, i.toNat * 14 + j, none⟩ = some u)
    (hK : k33.K w { y with f2 := j } (iv { y with f2 := j } A7 A8 A11 A13 c7 c8 c11 c13).toList) : Lw w (W.setCell ⟨g, i.toNat * 14 + 2, none⟩ (.int .i64 j)) gq t g nq cap K := by
  have hs := Kd.R_seg (d := Kd.fixed k33 w) (okp := fun _ => False) h3 i h0 h1 (c := (iv y A7 A8 A11 A13 c7 c8 c11 c13).toList) (seg := [.int .i64 j]) (j := 2) rfl hcc (show 2 + 1 ≤ 14 by decide) (x' := { y with f2 := j }) hK (fun _ h => h.elim)
  have e : W.setCells g (i.toNat * (Kd.fixed k33 w).sz + 2) [.int .i64 j] = W.setCell ⟨g, i.toNat * 14 + 2, none⟩ (.int .i64 j) := rfl
  rw [e] at hs
  obtain ⟨hR, hg⟩ := hs
  have hne := Kd.R_ne h3 h2 (by decide)
  have hbg : w.heap.size ≤ g := Kd.R_base h3 g (by simp [Value.ownBlock])
  refine ⟨_, (hg.block gq (blk_lt h2) hne).trans h2, hR, h4.setCell hbg _, ?_⟩
  rw [← hk, List.map_set]
  have hlen : i.toNat < xs.length := by have := (Kd.R_reads' h3).1; omega
  have hyk : keyB { y with f2 := j } = keyB (xs[i.toNat]) := by
    have : xs[i.toNat] = y := by rw [← hy]; simp [List.getD, hlen]
    rw [this]; rfl
  rw [hyk]
  apply List.ext_getElem
  · simp
  · intro q h1 h2
    rw [List.getElem_set]
    split
    · rename_i h; subst h; simp
    · rfl
set_option maxHeartbeats 8000000 in
set_option maxRecDepth 100000 in
theorem bare_calls (w : World) (t : ByteArray) (A : Option Addr) (l : List S33) (c : Nat) (hC : Kd.C k33 w A l.length l) (hcap : l.length ≤ c) (hlen : l.length * 176 ≤ 140737488351232) (hts : t.size ≤ maxLen)
    (hs : ∀ x ∈ l, x.f5.size ≤ maxLen ∧ -9223372036854775808 ≤ x.f1 ∧ x.f1 < 9223372036854775808) (hQ : ∀ xs : List S33, xs.map keyB = (l.filter noL).map keyB → 0 < cntO [2] l → ckB t xs = false) :
    Calls Try.prog 6 #[.agg #[.string t, .slice A l.length c]] w fun e w' => e = .returned (.bool true) ∧ Below w.heap.size w w' := by
  have HC := Aside0.mk hC
  have HCAP := Aside0.mk hcap
  have HL := Aside0.mk hlen
  have HT := Aside0.mk hts
  have HS := Aside0.mk hs
  have HQ := Aside0.mk hQ
  clear hC hcap hlen hts hs hQ
  go_enter Try.func6, Try.ntmps6
  go_upto_region 1 with (fail)
  have hgp := heap_alloc_new w (.cells #[.string t, .slice A l.length c] 25)
  have hb0 := Below.alloc (Below.refl w.heap.size w) (Nat.le_refl _) (.cells #[.string t, .slice A l.length c] 25)
  obtain ⟨gp, hgpe⟩ : ∃ gp, w.heap.size = gp := ⟨_, rfl⟩
  generalize w.alloc (.cells #[.string t, .slice A l.length c] 25) = W0 at hgp hb0 ⊢
  have HGP := Aside0.mk hgp
  have HB0 := Aside0.mk hb0
  clear hgp hb0
  rw [hgpe]
  go_upto_region 6 with (first
    | (go_at_call 7; (with_reducible refine (hasplaw22_speaks.calls true _ speaks_ok).mono ?_); rintro e w3 ⟨rfl, hb⟩; have HB2 := Aside0.mk (below_step HB0.out hb); have HGP2 := Aside0.mk ((hb.block w.heap.size (blk_lt HGP.out)).trans HGP.out); clear HB0 HGP hb; rw [hgpe] at HGP2; have c0 : w3.cell? ⟨gp, 0, none⟩ = some (.string t) := (blk_cell HGP2.out 0).trans rfl; have c1 : w3.cell? ⟨gp, 1, none⟩ = some (.slice A l.length c) := (blk_cell HGP2.out 1).trans rfl))
  have hv : Cv w (w3.alloc (.cells #[.string t, .slice none 0 0] 25)) gp w3.heap.size t A l.length c [] :=
    ⟨.slice none 0 0, blk_alloc HGP2.out _, heap_alloc_new w3 _, Kd.R_nil _ _ _ _ _, below_alloc HB2.out _⟩
  have hne : gp ≠ w3.heap.size := by have := blk_lt HGP2.out; omega
  obtain ⟨gq, hgq⟩ : ∃ gq, w3.heap.size = gq := ⟨_, rfl⟩
  rw [hgq] at hv hne
  rw [hgq]
  have HGQ : Aside0 (gp ≠ gq ∧ w.heap.size ≤ gq) := ⟨hne, by have := HB2.out.size; omega⟩
  clear c0 c1 HB2 HGP2 hne
  generalize w3.alloc (.cells #[.string t, .slice none 0 0] 25) = W4 at hv ⊢
  have c0 : W4.cell? ⟨gp, 0, none⟩ = some (.string t) := by obtain ⟨v, h1, _⟩ := hv; exact (blk_cell h1 0).trans rfl
  have c1 : W4.cell? ⟨gp, 1, none⟩ = some (.slice A l.length c) := by obtain ⟨v, h1, _⟩ := hv; exact (blk_cell h1 1).trans rfl
  have HV := Aside0.mk hv
  clear hv hgq
  go_wp2
  clear c0 c1
  go_loopg [3, 5, 17] l.length (fun kq v3 v5 v17 w' => ∃ (i : Int) (o m : Nat), v3 = .int .i64 o ∧ v5 = .int .i64 m ∧ v17 = .int .i64 i ∧ Aside0 (0 ≤ i ∧ i ≤ l.length ∧ (kq : Int) = l.length - i) ∧ Aside0 (cntO [2] (l.take i.toNat) = o ∧ cntO [1] (l.take i.toNat) = m) ∧ Aside0 (Cv w w' gp gq t A l.length c ((l.take i.toNat).filter noL)))
  case atStart => exact ⟨0, 0, 0, rfl, rfl, rfl, ⟨by omega, by omega, by omega⟩, ⟨rfl, rfl⟩, HV⟩
  case round =>
    clear HV
    obtain ⟨i, o, m, rfl, rfl, rfl, HI, HO, HV⟩ := hrel
    obtain ⟨h0, h1, h2⟩ := HI.out
    by_cases hlt : i < l.length
    · have hBw : Below w.heap.size w wr := by obtain ⟨v, _, _, _, h⟩ := HV.out; exact h
      obtain ⟨ad, A7, A8, A11, A13, c7, c8, c11, c13, e, x0, x1, x2, x3, x4, x5, x6, x7, x8, x9, x10, x11, x12, x13, hk⟩ := elem_full HC.out hBw i h0 hlt
      cases e
      have q0 := eq_true h0
      have q1 := eq_true hlt
      have b1 : decide (i < (l.length : Int)) = true := decide_eq_true hlt
      have hsn := take_snoc33 l i h0 hlt
      obtain ⟨z, hz⟩ : ∃ z, rd_T33 l i = z := ⟨_, rfl⟩
      rw [hz] at x0 x1 x2 x3 x4 x5 x6 x7 x8 x9 x10 x11 x12 x13 hsn hk
      have ho63 : (o : Int) ≤ i := by have := cntO_len 2 (l.take i.toNat); rw [HO.out.1, List.length_take] at this; omega
      have hm63 : (m : Int) ≤ i := by have := cntO_len 1 (l.take i.toNat); rw [HO.out.2, List.length_take] at this; omega
      have hi63 : i ≤ 1000000000000 := by have := HL.out; omega
      have HSN := Aside0.mk hsn
      have HKZ := Aside0.mk (hk z rfl rfl rfl rfl)
      have hnew := Below.alloc (Below.refl wr.heap.size wr) (Nat.le_refl _) (.cells (iv z A7 A8 A11 A13 c7 c8 c11 c13) 33)
      have hbx := heap_alloc_new wr (.cells (iv z A7 A8 A11 A13 c7 c8 c11 c13) 33)
      have HN := Aside0.mk hnew
      have HXB := Aside0.mk hbx
      clear h1 h2 hz hsn hnew hbx hBw hk
      go_upto_region 9 with (fail)
      clear x0 x1 x2 x3 x4 x5 x6 x7 x8 x9 x10 x11 x12 x13
      obtain ⟨gx, hgx⟩ : ∃ gx, wr.heap.size = gx := ⟨_, rfl⟩
      generalize wr.alloc (.cells (iv z A7 A8 A11 A13 c7 c8 c11 c13) 33) = W2 at HN HXB ⊢
      rw [hgx] at HXB
      rw [hgx]
      have HS4 := HXB
      have HN4 := HN
      clear HXB HN hgx
      have et : (i + 1).toNat = i.toNat + 1 := by omega
      have HET := Aside0.mk et
      clear et
      by_cases e1 : z.f0 = 1
      · have t1 : (z.f0 == 1) = true := beq_iff_eq.2 e1
        have HF : Aside0 ((l.take (i.toNat + 1)).filter noL = (l.take i.toNat).filter noL) := ⟨by rw [HSN.out, List.filter_append, List.filter_cons_of_neg (by unfold noL; simp [e1])]; simp⟩
        have HO2 : Aside0 (cntO [2] (l.take (i.toNat + 1)) = o ∧ cntO [1] (l.take (i.toNat + 1)) = m + 1) := ⟨by rw [HSN.out, cntO_snoc, cntO_snoc, HO.out.1, HO.out.2, if_neg (by omega), if_pos e1]; exact ⟨rfl, rfl⟩⟩
        have y0 : W2.cell? ⟨gx, 0, none⟩ = some (.int .i64 z.f0) := (blk_cell HS4.out 0).trans rfl
        clear e1
        go_wp2
        go_roundg (l.length - (i.toNat + 1))
        case measure => have := HI.out; omega
        case rel => exact ⟨i + 1, o, m + 1, rfl, by first | rfl | go_num, rfl, ⟨by omega, by omega, by omega⟩, ⟨by rw [HET.out]; exact HO2.out⟩, ⟨by rw [HET.out, HF.out]; exact HV.out.keep HN4.out⟩⟩
      · have t1 : (z.f0 == 1) = false := beq_eq_false_iff_ne.2 e1
        have HF : Aside0 ((l.take (i.toNat + 1)).filter noL = (l.take i.toNat).filter noL ++ [z]) := ⟨by rw [HSN.out, List.filter_append, List.filter_cons_of_pos (by unfold noL; simp [e1])]; rfl⟩
        obtain ⟨v, g1, g2, g3, g4⟩ := HV.out.keep HN4.out
        obtain ⟨Aq, cq, e, -, -⟩ := Cv.reads g3 g4
        subst e
        have p1 : W2.cell? ⟨gq, 1, none⟩ = some (.slice Aq ((l.take i.toNat).filter noL).length cq) := (blk_cell g2 1).trans rfl
        obtain ⟨n, hn⟩ : ∃ n, ((l.take i.toNat).filter noL).length = n := ⟨_, rfl⟩
        have HN4' : Aside0 (n < l.length) := ⟨by have := List.length_filter_le noL (l.take i.toNat); rw [hn, List.length_take] at this; omega⟩
        rw [hn] at p1 g2 g3
        have HGG := Aside0.mk (And.intro g1 (And.intro g2 (And.intro g3 g4)))
        have HNN := Aside0.mk hn
        clear g1 g2 g3 g4 hn
        obtain ⟨oo, hoo⟩ : ∃ oo : Nat, o + (if z.f0 = 2 then 1 else 0) = oo := ⟨_, rfl⟩
        have HO2 : Aside0 (cntO [2] (l.take (i.toNat + 1)) = oo ∧ cntO [1] (l.take (i.toNat + 1)) = m) := ⟨by rw [HSN.out, cntO_snoc, cntO_snoc, HO.out.1, HO.out.2, if_neg (c := z.f0 = 1) e1, hoo]; exact ⟨rfl, rfl⟩⟩
        have y0 : W2.cell? ⟨gx, 0, none⟩ = some (.int .i64 z.f0) := (blk_cell HS4.out 0).trans rfl
        have HOO := Aside0.mk hoo
        clear e1 hoo
        obtain ⟨b2, hb2⟩ : ∃ b2, (z.f0 == 2) = b2 := ⟨_, rfl⟩
        go_upto_if 28 with (fail)
        have HB2 := Aside0.mk hb2
        clear hb2 y0
        go_cut [3] (fun v3 wc => v3 = .int .i64 oo ∧ wc = W2)
        case first =>
          cases b2
          · have e : oo = o := by rw [← HOO.out, if_neg (by have := HB2.out; simpa using this)]; rfl
            subst e
            go_wp2
            go_meet
            case rel => exact ⟨rfl, rfl⟩
          · have e : oo = o + 1 := by rw [← HOO.out, if_pos (by have := HB2.out; simpa using this)]
            subst e
            go_wp2
            go_meet
            case rel => exact ⟨by first | rfl | go_num, rfl⟩
        case rest =>
          obtain ⟨rfl, rfl⟩ := hcut
          generalize wc = W2 at HS4 HN4 HGG p1 ⊢
          have d0 : W2.cell? ⟨gx, 0, none⟩ = some (.int .i64 z.f0) := (blk_cell HS4.out 0).trans rfl
          have d1 : W2.cell? ⟨gx, 1, none⟩ = some (.int .i64 z.f1) := (blk_cell HS4.out 1).trans rfl
          have d2 : W2.cell? ⟨gx, 2, none⟩ = some (.int .i64 z.f2) := (blk_cell HS4.out 2).trans rfl
          have d3 : W2.cell? ⟨gx, 3, none⟩ = some (.int .i64 z.f3) := (blk_cell HS4.out 3).trans rfl
          have d4 : W2.cell? ⟨gx, 4, none⟩ = some (.int .i64 z.f4) := (blk_cell HS4.out 4).trans rfl
          have d5 : W2.cell? ⟨gx, 5, none⟩ = some (.string z.f5) := (blk_cell HS4.out 5).trans rfl
          have d6 : W2.cell? ⟨gx, 6, none⟩ = some (.int .i64 z.f6) := (blk_cell HS4.out 6).trans rfl
          have d7 : W2.cell? ⟨gx, 7, none⟩ = some (.slice A7 z.f7.length c7) := (blk_cell HS4.out 7).trans rfl
          have d8 : W2.cell? ⟨gx, 8, none⟩ = some (.slice A8 z.f8.length c8) := (blk_cell HS4.out 8).trans rfl
          have d9 : W2.cell? ⟨gx, 9, none⟩ = some (.bool z.f9) := (blk_cell HS4.out 9).trans rfl
          have d10 : W2.cell? ⟨gx, 10, none⟩ = some (.bool z.f10) := (blk_cell HS4.out 10).trans rfl
          have d11 : W2.cell? ⟨gx, 11, none⟩ = some (.slice A11 z.f11.length c11) := (blk_cell HS4.out 11).trans rfl
          have d12 : W2.cell? ⟨gx, 12, none⟩ = some (.int .i64 z.f12) := (blk_cell HS4.out 12).trans rfl
          have d13 : W2.cell? ⟨gx, 13, none⟩ = some (.slice A13 z.f13.length c13) := (blk_cell HS4.out 13).trans rfl
          go_wp2_with (first | ((with_reducible refine gate_builtin (b := .append) (xs := #[.tmp 32, .tmp 34]) rfl ?_); at_builtin; refine Kd.R_append (Kd.fixed k33 w) (w0 := w) (W := W2) w.heap.size rfl (.tmp 32) (.tmp 34) 23 33 z33v 176 rfl Try.underlying23 info33 rfl (show 0 < 14 by decide) (by decide) (.slice Aq n cq) ((l.take i.toNat).filter noL) z [.int .i64 z.f0, .int .i64 z.f1, .int .i64 z.f2, .int .i64 z.f3, .int .i64 z.f4, .string z.f5, .int .i64 z.f6, .slice A7 z.f7.length c7, .slice A8 z.f8.length c8, .bool z.f9, .bool z.f10, .slice A11 z.f11.length c11, .int .i64 z.f12, .slice A13 z.f13.length c13] (fun _ => True) (fun _ => False) rfl rfl HKZ.out (fun _ hk => hk.elim) (fun _ _ => trivial) HGG.out.2.2.1 HGG.out.2.2.2 HGG.out.2.2.2.size (by rw [HNN.out]; have := HN4'.out; have := HL.out; omega) ?_; intro v1 w1 ho hb hg _; obtain ⟨Ar, cr, er⟩ := Kd.R_slice ho; obtain ⟨nr, hnr⟩ : ∃ nr, (List.filter noL (List.take i.toNat l) ++ [z]).length = nr := ⟨_, rfl⟩; rw [hnr] at er; clear hnr; subst er; have HPU := Aside0.mk (Cv.push HGG.out.1 HGG.out.2.1 HGG.out.2.2.1 HGQ.out.1 HGQ.out.2 ho hb hg); have hgq := (hg.block gq (blk_lt HGG.out.2.1) (Kd.R_ne HGG.out.2.2.1 HGG.out.2.1 (by decide))).trans HGG.out.2.1; have r1 : w1.cell? ⟨gq, 1, none⟩ = some (.slice Aq n cq) := (blk_cell hgq 1).trans rfl; have f1 : w1.frozen? ⟨gq, 1, none⟩ = false := frozen_of_row w1 gq 1 _ 25 hgq; clear ho hb hg hgq))
          go_roundg (l.length - (i.toNat + 1))
          case measure => have := HI.out; omega
          case rel => exact ⟨i + 1, oo, m, rfl, rfl, rfl, ⟨by omega, by omega, by omega⟩, ⟨by rw [HET.out]; exact HO2.out⟩, ⟨by rw [HET.out, HF.out]; exact HPU.out⟩⟩
    · obtain rfl : i = l.length := by omega
      have hv := HV.out
      have ho := HO.out
      rw [show (l.length : Int).toNat = l.length by omega, List.take_length] at hv ho
      have hm63 : m ≤ 1000000000000 := by have := cntO_len 1 l; have := HL.out; omega
      have b1 : decide ((l.length : Int) < (l.length : Int)) = false := decide_eq_false (by omega)
      have hBw : Below w.heap.size w wr := by obtain ⟨v, _, _, _, h⟩ := hv; exact h
      have c0 : wr.cell? ⟨gp, 0, none⟩ = some (.string t) := by obtain ⟨v, h1, _⟩ := hv; exact (blk_cell h1 0).trans rfl
      have c1 : wr.cell? ⟨gp, 1, none⟩ = some (.slice A l.length c) := by obtain ⟨v, h1, _⟩ := hv; exact (blk_cell h1 1).trans rfl
      have HV2 := Aside0.mk hv
      have HO2 := Aside0.mk ho
      have HBW := Aside0.mk hBw
      clear HV HO hv ho hBw h0 h1 h2 hlt HI
      cases hck : ckB t l with
      | false =>
        have HCK := Aside0.mk (check_no wr t A l c (Kd.C_below HC.out HBW.out) HCAP.out (by have := HL.out; omega) HT.out HS.out hck)
        clear hck
        go_wp2_with (first | (go_at_call 8; (with_reducible refine HCK.out.mono ?_); rintro e w5 ⟨rfl, hb⟩; have HB5 := Aside0.mk (below_step HBW.out hb); clear hb))
        go_ret
        exact ⟨by first | rfl | simp, HB5.out⟩
      | true =>
        have HCK := Aside0.mk (check_ok wr t A l c (Kd.C_below HC.out HBW.out) HCAP.out (by have := HL.out; omega) HT.out HS.out hck)
        have H4 := Aside0.mk (ckB_len hck)
        clear hck
        by_cases e0 : o = 0
        · subst e0
          go_wp2_with (first | (go_at_call 8; (with_reducible refine HCK.out.mono ?_); rintro e w5 ⟨rfl, hb⟩; have HB5 := Aside0.mk (below_step HBW.out hb); clear hb))
          go_ret
          exact ⟨by first | rfl | simp, HB5.out⟩
        · have t0 : ((o : Int) == 0) = false := beq_eq_false_iff_ne.2 (by omega)
          have HE0 := Aside0.mk e0
          clear e0
          by_cases e1 : m = 0
          · subst e1
            go_wp2_with (first | (go_at_call 8; (with_reducible refine HCK.out.mono ?_); rintro e w5 ⟨rfl, hb⟩; have HB5 := Aside0.mk (below_step HBW.out hb); clear hb))
            go_ret
            exact ⟨by first | rfl | simp, HB5.out⟩
          · have t1 : ((m : Int) == 0) = false := beq_eq_false_iff_ne.2 (by omega)
            clear e1
            go_upto_region 17 with (first | (go_at_call 8; (with_reducible refine HCK.out.mono ?_); rintro e w5 ⟨rfl, hb⟩; have HV5 := Aside0.mk (HV2.out.keep hb); clear hb))
            clear c0 c1 t0 t1 b1 HV2 HBW HCK
            obtain ⟨v, g1, g2, g3, g4⟩ := HV5.out
            have hnq : 0 < (l.filter noL).length := by
              have h1 : cntO [2] l ≤ (l.filter noL).length := by
                rw [← List.countP_eq_length_filter]
                refine List.countP_mono_left fun x _ hx => ?_
                unfold noL
                simp at hx
                simp [hx]
              have := HO2.out.1
              have := HE0.out
              omega
            obtain ⟨g, cap, e⟩ : ∃ g cap, v = .slice (some ⟨g, 0, none⟩) (l.filter noL).length cap := by
              obtain ⟨inner, ho⟩ := Kd.R_own g3
              rcases ho.2 with ⟨_, h0⟩ | ⟨g, cap, cur, hv, _⟩
              · omega
              · exact ⟨g, cap, hv⟩
            subst e
            obtain ⟨nq, hn⟩ : ∃ nq, (l.filter noL).length = nq := ⟨_, rfl⟩
            rw [hn] at g2 g3
            have HN4 : Aside0 (nq ≤ 4096) := ⟨by have := List.length_filter_le noL l; have := H4.out; omega⟩
            have p1 : w5.cell? ⟨gq, 1, none⟩ = some (.slice (some ⟨g, 0, none⟩) nq cap) := (blk_cell g2 1).trans rfl
            have HL0 : Aside0 (Lw w w5 gq t g nq cap ((l.filter noL).map keyB)) := ⟨_, g2, g3, g4, rfl⟩
            clear g1 g2 g3 g4 hnq hn HV5
            go_wp2
            clear p1
            go_loopg [52] nq (fun kq v52 w' => ∃ (i : Int), v52 = .int .i64 i ∧ Aside0 (0 ≤ i ∧ i ≤ nq ∧ (kq : Int) = nq - i) ∧ Aside0 (Lw w w' gq t g nq cap ((l.filter noL).map keyB)))
            case atStart => exact ⟨0, rfl, ⟨by omega, by omega, by omega⟩, HL0⟩
            case round =>
              clear HL0
              obtain ⟨i, rfl, HI, HW⟩ := hrel
              obtain ⟨h0, h1, h2⟩ := HI.out
              obtain ⟨xs, g2, g3, g4, hkey⟩ := HW.out
              by_cases hlt : i < nq
              · have b1 : decide (i < (nq : Int)) = true := decide_eq_true hlt
                have q0 := eq_true h0
                have q1 := eq_true hlt
                have hi63 : i ≤ 4096 := by have := HN4.out; omega
                have p1 : wr.cell? ⟨gq, 1, none⟩ = some (.slice (some ⟨g, 0, none⟩) nq cap) := (blk_cell g2 1).trans rfl
                obtain ⟨cc, hcl, hM, hcc, hfr⟩ := Kd.R_elem g3 z33 i h0 hlt
                obtain ⟨y, hy⟩ : ∃ y, xs.getD i.toNat z33 = y := ⟨_, rfl⟩
                rw [hy] at hM
                have HY := Aside0.mk hy
                obtain ⟨A7, c7, A8, c8, A11, c11, A13, c13, e, l7, k7, l8, k8, l11, k11, l13, k13⟩ := k33_open (show k33.K w y cc from hM)
                subst e
                have y2 : wr.cell? ⟨g, i.toNat * 14 + 2, none⟩ = some (.int .i64 y.f2) := hcc 2 _ rfl
                have f2 : wr.frozen? ⟨g, i.toNat * 14 + 2, none⟩ = false := hfr 2
                have HKZ : Aside0 (∀ j : Int, k33.K w { y with f2 := j } (iv { y with f2 := j } A7 A8 A11 A13 c7 c8 c11 c13).toList) := ⟨fun j => k33_mk w { y with f2 := j } l7 k7 l8 k8 l11 k11 l13 k13⟩
                have HCC := Aside0.mk hcc
                have HG := Aside0.mk (And.intro g2 (And.intro g3 (And.intro g4 hkey)))
                clear g2 g3 g4 hkey hcl hM hcc hfr hy l7 k7 l8 k8 l11 k11 l13 k13 h1 h2
                by_cases hge : y.f2 ≥ (m : Int)
                · have d1 : decide (y.f2 ≥ (m : Int)) = true := decide_eq_true hge
                  clear hge
                  obtain ⟨j, hj⟩ : ∃ j, wrap64 (y.f2 - (m : Int)) = j := ⟨_, rfl⟩
                  go_upto_region 22 with (fail)
                  have HP := Aside0.mk (Lw.put HG.out.1 HG.out.2.1 HG.out.2.2.1 HG.out.2.2.2 i h0 hlt y HY.out j HCC.out (HKZ.out j))
                  clear hj y2 f2 d1
                  generalize wr.setCell ⟨g, i.toNat * 14 + 2, none⟩ (.int .i64 j) = W9 at HP ⊢
                  go_wp2
                  go_roundg (nq - (i.toNat + 1))
                  case measure => have := HI.out; omega
                  case rel => exact ⟨i + 1, rfl, ⟨by omega, by omega, by omega⟩, HP⟩
                · have d1 : decide (y.f2 ≥ (m : Int)) = false := decide_eq_false hge
                  clear hge
                  go_wp2
                  go_roundg (nq - (i.toNat + 1))
                  case measure => have := HI.out; omega
                  case rel => exact ⟨i + 1, rfl, ⟨by omega, by omega, by omega⟩, HW⟩
              · obtain rfl : i = nq := by omega
                have b1 : decide ((nq : Int) < (nq : Int)) = false := decide_eq_false (by omega)
                obtain ⟨Aw, cw, e, hcw, hCw⟩ := Cv.reads g3 g4
                injection e with e1 e2 e3
                subst e1
                subst e3
                have y0 : wr.cell? ⟨gq, 0, none⟩ = some (.string t) := (blk_cell g2 0).trans rfl
                have y1 : wr.cell? ⟨gq, 1, none⟩ = some (.slice (some ⟨g, 0, none⟩) nq cap) := (blk_cell g2 1).trans rfl
                have HG4 := Aside0.mk g4
                have hck := HQ.out xs hkey (by have := HO2.out.1; have := HE0.out; omega)
                have HCK3 := check_no wr t (some ⟨g, 0, none⟩) xs cap hCw hcw (by have := HN4.out; omega) HT.out (fun x hx => by
                  have hx' : keyB x ∈ (l.filter noL).map keyB := by rw [← hkey]; exact List.mem_map_of_mem hx
                  obtain ⟨u, hu, hk⟩ := List.mem_map.1 hx'
                  have hq := HS.out u (List.mem_filter.1 hu).1
                  unfold keyB at hk
                  have k1 := congrArg (fun p => p.2.1) hk
                  have k2 := congrArg (fun p => p.2.2) hk
                  dsimp only at k1 k2
                  rw [k1, k2] at hq
                  exact hq) hck
                rw [← e2] at HCK3
                have HCK4 := Aside0.mk HCK3
                clear HCK3 hck hcw hCw e2 g2 g3 g4 hkey h0 h1 h2 hlt HI HW
                go_wp2_with (first | (go_at_call 8; (with_reducible refine HCK4.out.mono ?_); rintro e w7 ⟨rfl, hb⟩; have HB7 := Aside0.mk (below_step HG4.out hb); clear hb))
                go_ret
                exact ⟨by first | rfl | simp, HB7.out⟩
end Go.Proofs.Ytfnmploaklboiaa
