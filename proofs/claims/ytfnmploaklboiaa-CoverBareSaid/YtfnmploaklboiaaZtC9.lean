import Derived.Test.YtfnmploaklboiaaZtC8
/- cover: reads. -/
namespace Go.Proofs.Ytfnmploaklboiaa
open Go.RowKit Go.Proofs.YtfnmploaklboiaaW.PrintWords A
set_option linter.unusedSimpArgs false
set_option linter.unusedVariables false
def okO (o : Option S33) (x : S33) : Bool := match o with
  | none => true
  | some z => !(z.f5.toList != x.f5.toList || z.f6 != x.f6)
/-- Is an InOpen locked, and the same as the one ahead? -/
def okR (md : ByteArray → Int) (o : Option S33) (x : S33) : Bool := okO o x && cov (md x.f5) (if x.f6 < 0 then 3 else 1)
def putO (o : Int → Option S33) (x : S33) : Int → Option S33 := fun c => if x.f0 = 2 ∧ x.f1 = c then some x else o c
def rdB (md : ByteArray → Int) : (Int → Option S33) → List S33 → Bool
  | _, [] => true
  | o, x :: t => (if x.f0 = 2 then okR md (o x.f1) x else true) && rdB md (putO o x) t
theorem openF_put (l : List S33) (x : S33) : openF (l ++ [x]) = putO (openF l) x := by
  funext c
  rw [openF_snoc]; rfl
theorem putO_no (o : Int → Option S33) (x : S33) (h : ¬ x.f0 = 2) : putO o x = o := by
  funext c
  unfold putO
  rw [if_neg (fun q => h q.1)]
def readsB (md : ByteArray → Int) (l : List S33) : Bool := rdB md (fun _ => none) l && !(l.any fun x => x.f0 == 3 && !nxB l x)
theorem OpenM.kept {w w' : World} {ob : Nat} {l : List S33} {k : Nat} (h : OpenM w ob l k) (hb : Below w.heap.size w w') : OpenM w' ob l k := h.blk (hb.block ob h.lt)
theorem ModeM.blk {w w' : World} {mb : Nat} {l : List S33} {k : Nat} (h : ModeM w mb l k) (hb : w'.heap[mb]? = w.heap[mb]?) : ModeM w' mb l k := by
  obtain ⟨F, n, m1, m2, m3⟩ := h
  exact ⟨F, n, m1.blk hb, m2, m3⟩
theorem ModeM.lt {w : World} {mb : Nat} {l : List S33} {k : Nat} (h : ModeM w mb l k) : mb < w.heap.size := by
  obtain ⟨F, n, m1, m2, m3⟩ := h
  exact m1.lt
theorem ModeM.look {w : World} {mb : Nat} {l : List S33} {k : Nat} (h : ModeM w mb l k) (s : ByteArray) (hs : s.size ≤ maxLen) (w' : World) (hw : w'.heap[mb]? = w.heap[mb]?) :
    (Instr.lookup 37 (.map (some mb)) (.string s) false).run Try.prog w' = .ok (.int .i64 (modeF (l.take k) s)) w' := by
  obtain ⟨F, n, m1, m2, m3⟩ := h
  have := (m1.blk hw).look keyedS und37 (zero3 w') (isKeyS s) (keyOfS s hs)
  rw [m3 s] at this
  exact this
/-- One more InOpen. -/
theorem OpenM.store {w : World} {ob : Nat} {l : List S33} {i : Int} (h : OpenM w ob l i.toNat) (h0 : 0 ≤ i) (h1 : i < l.length) (hl : l.length ≤ 100000000000000) (y : S33) (hy : rd_T33 l i = y) (hop : y.f0 = 2) (hr : -9223372036854775808 ≤ y.f1 ∧ y.f1 < 9223372036854775808) {A7 A8 A11 A13 : Option Addr} {c7 c8 c11 c13 : Nat} :
    ∃ w', (Instr.mapUpdate 38 (.map (some ob)) (.int .i64 y.f1) (.agg (iv y A7 A8 A11 A13 c7 c8 c11 c13))).run Try.prog w = .ok () w' ∧ OpenM w' ob l (i + 1).toNat ∧ w.grownBy w' (some ob) := by
  obtain ⟨F, n, m1, m2, m3⟩ := h
  obtain ⟨w', hrun, h2, h3⟩ := m1.store keyedI und38 (by unfold maxLen; omega) (val := .agg (iv y A7 A8 A11 A13 c7 c8 c11 c13)) (isKeyI y.f1) (keyOfI y.f1 hr)
  have et : (i + 1).toNat = i.toNat + 1 := by omega
  refine ⟨w', hrun, ⟨_, n + 1, h2, by omega, fun c => ?_⟩, h3⟩
  rw [et, take_snoc33 l i h0 h1, hy, openF_snoc]
  unfold updF
  by_cases e : y.f1 = c
  · subst e
    rw [if_pos ⟨hop, rfl⟩]
    exact ⟨_, ⟨A7, A8, A11, A13, c7, c8, c11, c13, rfl⟩, by rw [if_pos rfl]⟩
  · rw [if_neg (fun q => e q.2)]
    have hne : ¬ keyI c = keyI y.f1 := fun h => e (by injection h with _ h; exact h.symm)
    have := m3 c
    rw [if_neg hne]
    exact this
set_option maxHeartbeats 8000000 in
set_option maxRecDepth 100000 in
theorem reads_calls (w0 W : World) (g mb ob : Nat) (t : ByteArray) (A : Option Addr) (l : List S33) (c : Nat) (hV : Vw w0 W g mb ob t A l c) (hs : ∀ x ∈ l, x.f5.size ≤ maxLen ∧ -9223372036854775808 ≤ x.f1 ∧ x.f1 < 9223372036854775808) (hM : ModeM W mb l l.length) (hO : OpenM W ob l 0)
    (hgm : g ≠ mb ∧ g ≠ ob ∧ mb ≠ ob) (hmb : w0.heap.size ≤ ob) :
    Calls Try.prog 13 #[.pointer (some ⟨g, 0, none⟩)] W fun e w' => e = .returned (.bool (readsB (modeF l) l)) ∧ W.grownBy w' (some ob) ∧ (readsB (modeF l) l = true → OpenM w' ob l l.length) := by
  have hV1 := hV.step (Below.alloc (Below.refl W.heap.size W) (Nat.le_refl _) (.cells #[.pointer (some ⟨g, 0, none⟩)] 36))
  have HP0 := Aside0.mk (hV.step (Below.alloc (Below.refl W.heap.size W) (Nat.le_refl _) (.cells #[.pointer (some ⟨g, 0, none⟩)] 36)))
  have HG0 : Aside0 (W.grownBy (W.alloc (.cells #[.pointer (some ⟨g, 0, none⟩)] 36)) (some ob)) := ⟨grown_below (grown_refl _ _) (Below.alloc (Below.refl W.heap.size W) (Nat.le_refl _) _)⟩
  have hbx := heap_alloc_new W (.cells #[.pointer (some ⟨g, 0, none⟩)] 36)
  have HO0 := Aside0.mk (hO.kept (Below.alloc (Below.refl W.heap.size W) (Nat.le_refl _) (.cells #[.pointer (some ⟨g, 0, none⟩)] 36)))
  have v1 := hV1.c1
  have p0 : (W.alloc (.cells #[.pointer (some ⟨g, 0, none⟩)] 36)).cell? ⟨W.heap.size, 0, none⟩ = some (.pointer (some ⟨g, 0, none⟩)) := (blk_cell hbx 0).trans rfl
  have HP1 := Aside0.mk hbx
  have HV := Aside0.mk hV
  have HS := Aside0.mk hs
  have HG := Aside0.mk (And.intro hgm hmb)
  have HM := Aside0.mk hM
  obtain ⟨R, hR⟩ : ∃ R : Bool, rdB (modeF l) (fun _ => none) l = R := ⟨_, rfl⟩
  obtain ⟨RR, hRR⟩ : ∃ RR : Bool, readsB (modeF l) l = RR := ⟨_, rfl⟩
  rw [hRR]
  have HR := Aside0.mk hR
  have HRR := Aside0.mk hRR
  have HOB := Aside0.mk hO.lt
  clear hR hRR hV hV1 hs hgm hmb hM hO hbx
  go_enter Try.func13, Try.ntmps13
  go_wp2
  clear v1 p0
  go_loopg [14] l.length (fun kq v14 w' => ∃ (i : Int), v14 = .int .i64 i ∧ Aside0 (0 ≤ i ∧ i ≤ l.length ∧ (kq : Int) = l.length - i) ∧ Aside0 (rdB (modeF l) (openF (l.take i.toNat)) (l.drop i.toNat) = R) ∧ Aside0 ((W.alloc (.cells #[.pointer (some ⟨g, 0, none⟩)] 36)).grownBy w' (some ob)) ∧ Aside0 (OpenM w' ob l i.toNat))
  case atStart => exact ⟨0, rfl, ⟨by omega, by omega, by omega⟩, ⟨HR.out⟩, ⟨grown_refl _ _⟩, HO0⟩
  case round =>
    obtain ⟨i, rfl, HI, HA, HW, HO⟩ := hrel
    obtain ⟨h0, h1, h2⟩ := HI.out
    have hB : Below w0.heap.size w0 wr := below_grown HP0.out.bel HW.out HG.out.2 HP0.out.bel.size
    have hgv : wr.heap[g]? = _ := (HW.out.block g (blk_lt HP0.out.blk) (by intro e; injection e with e; exact HG.out.1.2.1 e)).trans HP0.out.blk
    have hpv : wr.heap[W.heap.size]? = _ := (HW.out.block W.heap.size (blk_lt HP1.out) (by intro e; injection e with e; have := HOB.out; omega)).trans HP1.out
    have HWSZ := Aside0.mk HW.out.size
    have p0 : wr.cell? ⟨W.heap.size, 0, none⟩ = some (.pointer (some ⟨g, 0, none⟩)) := (blk_cell hpv 0).trans rfl
    have hmm : ModeM wr mb l l.length := HM.out.blk ((HW.out.block mb (by have := HM.out.lt; have := HG0.out.size; omega) (by intro e; injection e with e; exact HG.out.1.2.2 e)).trans (HG0.out.block mb HM.out.lt (by intro e; injection e with e; exact HG.out.1.2.2 e)))
    by_cases hlt : i < l.length
    · obtain ⟨ad, A7, A8, A11, A13, c7, c8, c11, c13, e, x0, x1, x2, x3, x4, x5, x6, x7, x8, x9, x10, x11, x12, x13⟩ := elem_at HV.out.row hB i h0 hlt
      cases e
      have q0 := eq_true h0
      have q1 := eq_true hlt
      have b1 : decide (i < (l.length : Int)) = true := decide_eq_true hlt
      have ha := HA.out
      rw [rd33_drop l i h0 hlt, rdB, ← openF_put] at ha
      have hsn := take_snoc33 l i h0 hlt
      have hsz := HS.out _ (mem_rd33 l i h0 hlt)
      obtain ⟨y, hy⟩ : ∃ y, rd_T33 l i = y := ⟨_, rfl⟩
      have HY := Aside0.mk hy
      rw [hy] at ha x0 x1 x2 x3 x4 x5 x6 x7 x8 x9 x10 x11 x12 x13 hsn hsz
      rw [← hsn] at ha
      have HD := Aside0.mk hlt
      have HSN := Aside0.mk hsn
      have HSZ := Aside0.mk hsz
      have hnew := Below.alloc (Below.refl wr.heap.size wr) (Nat.le_refl _) (.cells (iv y A7 A8 A11 A13 c7 c8 c11 c13) 33)
      have hbx := heap_alloc_new wr (.cells (iv y A7 A8 A11 A13 c7 c8 c11 c13) 33)
      have HB := Aside0.mk (grown_below HW.out hnew)
      have HO1 := Aside0.mk (HO.out.kept hnew)
      have HM1 : Aside0 (ModeM (wr.alloc (.cells (iv y A7 A8 A11 A13 c7 c8 c11 c13) 33)) mb l l.length) := ⟨hmm.blk (hnew.block mb hmm.lt)⟩
      have HGV : Aside0 ((wr.alloc (.cells (iv y A7 A8 A11 A13 c7 c8 c11 c13) 33)).heap[g]? = some (.cells #[.string t, .slice (some ad) l.length c, .map (some mb), .map (some ob)] 40 (0, 0))) := ⟨(hnew.block g (blk_lt hgv)).trans hgv⟩
      have HPV : Aside0 ((wr.alloc (.cells (iv y A7 A8 A11 A13 c7 c8 c11 c13) 33)).heap[W.heap.size]? = some (.cells #[.pointer (some ⟨g, 0, none⟩)] 36 (0, 0))) := ⟨(hnew.block W.heap.size (blk_lt hpv)).trans hpv⟩
      have HXB := Aside0.mk hbx
      have HWS := Aside0.mk (blk_lt hbx)
      clear HA h1 h2 hy hB hsn hsz hnew hgv hpv hmm hbx HO HW
      by_cases hop : y.f0 = 2
      · rw [if_pos hop] at ha
        have n1 : (y.f0 != 2) = false := bne_eq_false_iff_eq.2 hop
        have HOP := Aside0.mk hop
        have HA2 := Aside0.mk ha
        clear hop ha
        go_upto_region 5 with (fail)
        clear x0 x1 x2 x3 x4 x5 x6 x7 x8 x9 x10 x11 x12 x13 p0
        generalize hW1 : wr.alloc (.cells (iv y A7 A8 A11 A13 c7 c8 c11 c13) 33) = W1 at HB HO1 HM1 HGV HPV HXB HWS ⊢
        clear hW1
        obtain ⟨ok, hok⟩ : ∃ ok, (openF (l.take i.toNat) y.f1).isSome = ok := ⟨_, rfl⟩
        have HOK := Aside0.mk hok
        clear hok
        go_cut [5, 6] (fun v5 v6 wc => ∃ b z, v5 = .pointer (some ⟨b, 0, none⟩) ∧ v6 = .bool ok ∧ Aside0 (wc.cell? ⟨b, 5, none⟩ = some (.string (z : S33).f5) ∧ wc.cell? ⟨b, 6, none⟩ = some (.int .i64 z.f6)) ∧ Aside0 (∀ x, openF (l.take i.toNat) y.f1 = some x → z = x) ∧ Aside0 (Below W1.heap.size W1 wc))
        case first =>
          obtain ⟨z, B7, B8, B11, B13, d7, d8, d11, d13, hl, hz⟩ := HO1.out.look y.f1 HSZ.out.2
          rw [HOK.out] at hl
          have HZ := Aside0.mk hz
          have hz0 := Below.alloc (Below.refl W1.heap.size W1) (Nat.le_refl _) zero33c
          have T : ∀ {a : Addr} {v : Value}, W1.cell? a = some v → (W1.alloc zero33c).cell? a = some v := fun h => (hz0.cell (World.block_lt_of_cell? _ _ h)).trans h
          have y0 : W1.cell? ⟨W.heap.size, 0, none⟩ = some (.pointer (some ⟨g, 0, none⟩)) := (blk_cell HPV.out 0).trans rfl
          have y1 : W1.cell? ⟨g, 3, none⟩ = some (.map (some ob)) := (blk_cell HGV.out 3).trans rfl
          have y2 : W1.cell? ⟨wr.heap.size, 1, none⟩ = some (.int .i64 y.f1) := (blk_cell HXB.out 1).trans rfl
          have t0 := T y0
          have t1 := T y1
          have t2 := T y2
          have l1 := hl W1.drew rfl
          have l3 := hl (W1.alloc zero33c).drew (hz0.block ob HO1.out.lt)
          have hn2 := Below.alloc (Below.refl W1.heap.size W1) (Nat.le_refl _) (.cells (iv z B7 B8 B11 B13 d7 d8 d11 d13) 33)
          have hb2 := heap_alloc_new W1 (.cells (iv z B7 B8 B11 B13 d7 d8 d11 d13) 33)
          have HB2 := Aside0.mk (below_drew hn2)
          have HR5 : Aside0 ((W1.alloc (.cells (iv z B7 B8 B11 B13 d7 d8 d11 d13) 33)).drew.cell? ⟨W1.heap.size, 5, none⟩ = some (.string z.f5) ∧ (W1.alloc (.cells (iv z B7 B8 B11 B13 d7 d8 d11 d13) 33)).drew.cell? ⟨W1.heap.size, 6, none⟩ = some (.int .i64 z.f6)) := ⟨(blk_cell hb2 5).trans rfl, (blk_cell hb2 6).trans rfl⟩
          clear T hz0 hl hz hn2 hb2 HM1 HGV HPV HXB HWS HB HO1 HA2 HSN HR HRR HI HD
          go_region
          all_goals
            go_wp2
            go_meet
            case rel => exact ⟨_, z, rfl, rfl, HR5, HZ, HB2⟩
        case rest =>
          obtain ⟨b, z, rfl, rfl, HR5, HZ, HBW⟩ := hcut
          have HB3 := Aside0.mk (grown_below HB.out HBW.out)
          have HO3 := Aside0.mk (HO1.out.kept HBW.out)
          have HM3 : Aside0 (ModeM wc mb l l.length) := ⟨HM1.out.blk (HBW.out.block mb HM1.out.lt)⟩
          have hgv := (HBW.out.block g (blk_lt HGV.out)).trans HGV.out
          have hpv := (HBW.out.block W.heap.size (blk_lt HPV.out)).trans HPV.out
          have hxb := (HBW.out.block wr.heap.size (blk_lt HXB.out)).trans HXB.out
          have HGV3 := Aside0.mk hgv
          have HPV3 := Aside0.mk hpv
          have HXB3 := Aside0.mk hxb
          clear HB HO1 HM1 HGV HPV HXB HBW hgv hpv hxb
          obtain ⟨bad, hbad⟩ : ∃ bad, (ok && (!(z.f5.toList == y.f5.toList) || z.f6 != y.f6)) = bad := ⟨_, rfl⟩
          have HBAD := Aside0.mk hbad
          clear hbad
          go_upto_region 6 with (fail)
          go_cut [45] (fun v45 wd => v45 = .bool bad ∧ wd = wc)
          case first =>
            have r5 := HR5.out.1
            have r6 := HR5.out.2
            have k5 : wc.cell? ⟨wr.heap.size, 5, none⟩ = some (.string y.f5) := (blk_cell HXB3.out 5).trans rfl
            have k6 : wc.cell? ⟨wr.heap.size, 6, none⟩ = some (.int .i64 y.f6) := (blk_cell HXB3.out 6).trans rfl
            clear HB3 HO3 HM3 HGV3 HPV3 HXB3 HZ HA2 HSN HR HRR HI HD HWS
            cases ok
            · have e := HBAD.out
              rw [Bool.false_and] at e
              subst e
              go_wp2
              go_meet
              case rel => exact ⟨rfl, rfl⟩
            · have e := HBAD.out
              rw [Bool.true_and] at e
              cases hs5 : (z.f5.toList == y.f5.toList)
              · rw [hs5, Bool.not_false, Bool.true_or] at e
                subst e
                go_wp2
                go_meet
                case rel => exact ⟨by first | rfl | simp, rfl⟩
              · rw [hs5, Bool.not_true, Bool.false_or] at e
                subst e
                go_wp2
                go_meet
                case rel => exact ⟨by first | rfl | simp, rfl⟩
          case rest =>
            obtain ⟨rfl, rfl⟩ := hcut
            have hoko : okO (openF (l.take i.toNat) y.f1) y = !bad := by
              rw [← HBAD.out, ← HOK.out]
              cases ho : openF (l.take i.toNat) y.f1 with
              | none => rfl
              | some u => rw [HZ.out u ho]; rfl
            cases bad
            · have hokr : okR (modeF l) (openF (l.take i.toNat) y.f1) y = cov (modeF l y.f5) (if y.f6 < 0 then 3 else 1) := by
                unfold okR
                rw [hoko, Bool.not_false, Bool.true_and]
              have ha := HA2.out
              rw [hokr] at ha
              have HA3 := Aside0.mk ha
              clear ha hokr hoko HA2 HBAD HZ HR5
              go_upto_region 8 with (fail)
              have c0 : wc.drew.cell? ⟨wr.heap.size, 0, none⟩ = some (.int .i64 y.f0) := (blk_cell HXB3.out 0).trans rfl
              have c1 : wc.drew.cell? ⟨wr.heap.size, 1, none⟩ = some (.int .i64 y.f1) := (blk_cell HXB3.out 1).trans rfl
              have c2 : wc.drew.cell? ⟨wr.heap.size, 2, none⟩ = some (.int .i64 y.f2) := (blk_cell HXB3.out 2).trans rfl
              have c3 : wc.drew.cell? ⟨wr.heap.size, 3, none⟩ = some (.int .i64 y.f3) := (blk_cell HXB3.out 3).trans rfl
              have c4 : wc.drew.cell? ⟨wr.heap.size, 4, none⟩ = some (.int .i64 y.f4) := (blk_cell HXB3.out 4).trans rfl
              have c5 : wc.drew.cell? ⟨wr.heap.size, 5, none⟩ = some (.string y.f5) := (blk_cell HXB3.out 5).trans rfl
              have c6 : wc.drew.cell? ⟨wr.heap.size, 6, none⟩ = some (.int .i64 y.f6) := (blk_cell HXB3.out 6).trans rfl
              have c7' : wc.drew.cell? ⟨wr.heap.size, 7, none⟩ = some (.slice A7 y.f7.length c7) := (blk_cell HXB3.out 7).trans rfl
              have c8' : wc.drew.cell? ⟨wr.heap.size, 8, none⟩ = some (.slice A8 y.f8.length c8) := (blk_cell HXB3.out 8).trans rfl
              have c9 : wc.drew.cell? ⟨wr.heap.size, 9, none⟩ = some (.bool y.f9) := (blk_cell HXB3.out 9).trans rfl
              have c10 : wc.drew.cell? ⟨wr.heap.size, 10, none⟩ = some (.bool y.f10) := (blk_cell HXB3.out 10).trans rfl
              have c11' : wc.drew.cell? ⟨wr.heap.size, 11, none⟩ = some (.slice A11 y.f11.length c11) := (blk_cell HXB3.out 11).trans rfl
              have c12 : wc.drew.cell? ⟨wr.heap.size, 12, none⟩ = some (.int .i64 y.f12) := (blk_cell HXB3.out 12).trans rfl
              have c13' : wc.drew.cell? ⟨wr.heap.size, 13, none⟩ = some (.slice A13 y.f13.length c13) := (blk_cell HXB3.out 13).trans rfl
              have p0 : wc.drew.cell? ⟨W.heap.size, 0, none⟩ = some (.pointer (some ⟨g, 0, none⟩)) := (blk_cell HPV3.out 0).trans rfl
              have g3 : wc.drew.cell? ⟨g, 3, none⟩ = some (.map (some ob)) := (blk_cell HGV3.out 3).trans rfl
              have hO2 : OpenM wc.drew ob l i.toNat := HO3.out.blk rfl
              obtain ⟨W3, hst, hO4, hG3⟩ := hO2.store HI.out.1 HD.out HV.out.len y HY.out HOP.out HSZ.out.2 (A7 := A7) (A8 := A8) (A11 := A11) (A13 := A13) (c7 := c7) (c8 := c8) (c11 := c11) (c13 := c13)
              have HB4 : Aside0 ((W.alloc (.cells #[.pointer (some ⟨g, 0, none⟩)] 36)).grownBy W3 (some ob)) := ⟨grown_again (show (W.alloc (.cells #[.pointer (some ⟨g, 0, none⟩)] 36)).grownBy wc.drew (some ob) from ⟨HB3.out.os, HB3.out.tape, HB3.out.output, HB3.out.size, HB3.out.block⟩) hG3⟩
              have HO4 := Aside0.mk hO4
              have HM4 : Aside0 (ModeM W3 mb l l.length) := ⟨HM3.out.blk (hG3.block mb HM3.out.lt (by intro e; injection e with e; exact HG.out.1.2.2 e))⟩
              have hgv := (hG3.block g (blk_lt HGV3.out) (by intro e; injection e with e; exact HG.out.1.2.1 e)).trans HGV3.out
              have hpv := (hG3.block W.heap.size (blk_lt HPV3.out) (by intro e; injection e with e; have := HOB.out; omega)).trans HPV3.out
              have hxb := (hG3.block wr.heap.size (blk_lt HXB3.out) (by intro e; injection e with e; have := HOB.out; have := HG0.out.size; have := HWS.out; have := HWSZ.out; omega)).trans HXB3.out
              have HGV4 := Aside0.mk hgv
              have HPV4 := Aside0.mk hpv
              have HXB4 := Aside0.mk hxb
              clear HB3 HO3 HM3 HGV3 HPV3 HXB3 hO2 hO4 hG3 hgv hpv hxb
              refine wp_region_still_tail 7 (by kernel_rfl) (by kernel_rfl) ?_
              simp only [List.take_succ_cons, List.take_zero, List.drop_succ_cons, List.drop_zero]
              change wpStill _ _ wc.drew (fun a' => wpList _ _ _ _ a' wc.drew) _ _
              generalize wc.drew = W2 at c0 c1 c2 c3 c4 c5 c6 c7' c8' c9 c10 c11' c12 c13' p0 g3 hst ⊢
              repeat still_step
              refine wpStill_nil ?_
              have n6 : W3.cell? ⟨wr.heap.size, 6, none⟩ = some (.int .i64 y.f6) := (blk_cell HXB4.out 6).trans rfl
              have k0 : W3.drew.cell? ⟨W.heap.size, 0, none⟩ = some (.pointer (some ⟨g, 0, none⟩)) := (blk_cell HPV4.out 0).trans rfl
              have k2 : W3.drew.cell? ⟨g, 2, none⟩ = some (.map (some mb)) := (blk_cell HGV4.out 2).trans rfl
              have k5 : W3.drew.cell? ⟨wr.heap.size, 5, none⟩ = some (.string y.f5) := (blk_cell HXB4.out 5).trans rfl
              have hlk := HM4.out.look y.f5 HSZ.out.1 W3.drew rfl
              rw [List.take_length] at hlk
              obtain ⟨m, hm⟩ : ∃ m, modeF l y.f5 = m := ⟨_, rfl⟩
              rw [hm] at hlk
              have HMD := Aside0.mk hm
              clear hm c0 c1 c2 c3 c4 c5 c6 c7' c8' c9 c10 c11' c12 c13' p0 g3
              obtain ⟨ls, hls⟩ : ∃ ls : Int, (if y.f6 < 0 then 3 else 1) = ls := ⟨_, rfl⟩
              have HLS := Aside0.mk hls
              clear hls
              go_upto_region 12 with (fail)
              · have hls2 : (3 : Int) = ls := by
                  rw [← HLS.out]
                  first
                    | (rw [if_pos (by assumption)]; done)
                    | (rw [if_neg (by omega)]; done)
                subst hls2
                refine wp_region_still_lit (by kernel_rfl) (by kernel_rfl) ?_
                rw [show ({ W3 with drawn := W3.drawn + 1 } : World) = W3.drew from rfl]
                have HO5 : Aside0 (OpenM W3.drew ob l (i + 1).toNat) := ⟨HO4.out.blk rfl⟩
                have HB5 : Aside0 ((W.alloc (.cells #[.pointer (some ⟨g, 0, none⟩)] 36)).grownBy W3.drew (some ob)) := ⟨⟨HB4.out.os, HB4.out.tape, HB4.out.output, HB4.out.size, HB4.out.block⟩⟩
                clear HO4 HB4 HM4 HGV4 HPV4 HXB4 hst n6
                generalize W3.drew = W4 at hlk k0 k2 k5 HO5 HB5 ⊢
                repeat still_step
                still_call ((covers_calls m 3 W4).mono (fun e w' h => ⟨h.1, h.2.symm⟩))
                repeat still_step
                refine wpStill_nil ?_
                have ha := HA3.out
                rw [HLS.out, HMD.out] at ha
                cases hcv : cov m 3
                · rw [hcv, Bool.false_and] at ha
                  have hRR : RR = false := by rw [← HRR.out, readsB, HR.out, ← ha, Bool.false_and]
                  have HRR2 := Aside0.mk hRR
                  clear hRR ha
                  go_wp2
                  go_ret
                  exact ⟨ret_bool HRR2.out.symm, grown_again HG0.out HB5.out, fun h => absurd (HRR2.out.symm.trans h) (by decide)⟩
                · rw [hcv, Bool.true_and] at ha
                  have HA4 := Aside0.mk ha
                  clear ha
                  go_wp2
                  go_roundg (l.length - i.toNat - 1)
                  case measure => obtain ⟨h0, h1, h2⟩ := HI.out; have := HD.out; omega
                  case rel =>
                    obtain ⟨h0, h1, h2⟩ := HI.out
                    have hl := HV.out.len
                    have hd := HD.out
                    have et : (i + 1).toNat = i.toNat + 1 := by omega
                    refine ⟨i + 1, ?_, ⟨by omega, by omega, by omega⟩, ⟨?_⟩, HB5, HO5⟩
                    · rw [w64i i h0 (by omega)]
                    · rw [et]; exact HA4.out
              · have hls2 : (1 : Int) = ls := by
                  rw [← HLS.out]
                  first
                    | (rw [if_pos (by assumption)]; done)
                    | (rw [if_neg (by omega)]; done)
                subst hls2
                refine wp_region_still_lit (by kernel_rfl) (by kernel_rfl) ?_
                rw [show ({ W3 with drawn := W3.drawn + 1 } : World) = W3.drew from rfl]
                have HO5 : Aside0 (OpenM W3.drew ob l (i + 1).toNat) := ⟨HO4.out.blk rfl⟩
                have HB5 : Aside0 ((W.alloc (.cells #[.pointer (some ⟨g, 0, none⟩)] 36)).grownBy W3.drew (some ob)) := ⟨⟨HB4.out.os, HB4.out.tape, HB4.out.output, HB4.out.size, HB4.out.block⟩⟩
                clear HO4 HB4 HM4 HGV4 HPV4 HXB4 hst n6
                generalize W3.drew = W4 at hlk k0 k2 k5 HO5 HB5 ⊢
                repeat still_step
                still_call ((covers_calls m 1 W4).mono (fun e w' h => ⟨h.1, h.2.symm⟩))
                repeat still_step
                refine wpStill_nil ?_
                have ha := HA3.out
                rw [HLS.out, HMD.out] at ha
                cases hcv : cov m 1
                · rw [hcv, Bool.false_and] at ha
                  have hRR : RR = false := by rw [← HRR.out, readsB, HR.out, ← ha, Bool.false_and]
                  have HRR2 := Aside0.mk hRR
                  clear hRR ha
                  go_wp2
                  go_ret
                  exact ⟨ret_bool HRR2.out.symm, grown_again HG0.out HB5.out, fun h => absurd (HRR2.out.symm.trans h) (by decide)⟩
                · rw [hcv, Bool.true_and] at ha
                  have HA4 := Aside0.mk ha
                  clear ha
                  go_wp2
                  go_roundg (l.length - i.toNat - 1)
                  case measure => obtain ⟨h0, h1, h2⟩ := HI.out; have := HD.out; omega
                  case rel =>
                    obtain ⟨h0, h1, h2⟩ := HI.out
                    have hl := HV.out.len
                    have hd := HD.out
                    have et : (i + 1).toNat = i.toNat + 1 := by omega
                    refine ⟨i + 1, ?_, ⟨by omega, by omega, by omega⟩, ⟨?_⟩, HB5, HO5⟩
                    · rw [w64i i h0 (by omega)]
                    · rw [et]; exact HA4.out
            · have hRR : RR = false := by
                have ha := HA2.out
                unfold okR at ha
                rw [hoko, Bool.not_true, Bool.false_and, Bool.false_and] at ha
                rw [← HRR.out, readsB, HR.out, ← ha, Bool.false_and]
              have HRR2 := Aside0.mk hRR
              clear hRR hoko
              go_wp2
              go_ret
              exact ⟨ret_bool HRR2.out.symm, grown_again HG0.out HB3.out, fun h => absurd (HRR2.out.symm.trans h) (by decide)⟩
      · rw [if_neg hop, Bool.true_and] at ha
        have n1 : (y.f0 != 2) = true := bne_iff_ne.2 hop
        have HOP := Aside0.mk hop
        have HA2 := Aside0.mk ha
        clear ha hop
        go_wp2
        go_roundg (l.length - i.toNat - 1)
        case measure => obtain ⟨h0, h1, h2⟩ := HI.out; have := HD.out; omega
        case rel =>
          obtain ⟨h0, h1, h2⟩ := HI.out
          have hl := HV.out.len
          have hd := HD.out
          have et : (i + 1).toNat = i.toNat + 1 := by omega
          refine ⟨i + 1, ?_, ⟨by omega, by omega, by omega⟩, ⟨?_⟩, HB, ⟨?_⟩⟩
          · rw [w64i i h0 (by omega)]
          · rw [et]; exact HA2.out
          · obtain ⟨F, n, m1, m2, m3⟩ := HO1.out
            refine ⟨F, n, m1, by omega, fun c => ?_⟩
            rw [et, HSN.out, openF_put, putO_no _ _ HOP.out]
            exact m3 c
    · have b1 : decide (i < (l.length : Int)) = false := decide_eq_false hlt
      have ha := HA.out
      rw [List.drop_of_length_le (by omega), rdB] at ha
      have hm := HO.out
      have e1 : i.toNat = l.length := by omega
      rw [e1] at hm
      have hVr : Vw w0 wr g mb ob t A l c := ⟨hgv, HV.out.row, hB, HV.out.len⟩
      have hRR : RR = !(l.any fun x => x.f0 == 3 && !nxB l x) := by
        rw [← HRR.out, readsB, HR.out, ← ha, Bool.true_and]
      have HRR2 := Aside0.mk hRR
      have HC := Aside0.mk (all_22 ⟨W.heap.size, 0, none⟩ w0 wr g mb ob t A l c hVr 3 (nxB l) (fun x hx vs hv W' hW' =>
        reads1_calls x vs hv (HS.out x hx).2 W' _ g mb ob t A l c ((hW'.cell (World.block_lt_of_cell? _ _ p0)).trans p0) ((hW'.block g (blk_lt hgv)).trans hgv) (hm.kept hW')))
      have HM2 := Aside0.mk hm
      have hmf := mkf
      clear HA h1 h2 hlt h0 hm hVr ha hgv hpv hmm hB hRR
      go_wp2_with (first | (go_at_call 21; (with_reducible refine (HC.out).mono ?_); rintro e w' ⟨rfl, hb⟩; have HB2 := Aside0.mk hb; clear hb))
      go_ret
      refine ⟨ret_bool HRR2.out.symm, grown_below (grown_again HG0.out HW.out) HB2.out, fun _ => HM2.out.kept HB2.out⟩
end Go.Proofs.Ytfnmploaklboiaa
