import Derived.Test.YtgbjilcfgpbcgaaZwH19
import Derived.Test.YtgbjilcfgpbcgaaZwH20
/- Layer 8: HeapWalks, walked. -/
namespace Go.Proofs.Ytgbjilcfgpbcgaa
open Go.RowKit Go.Proofs.YtgbjilcfgpbcgaaW.PrintWords Go.Proofs.YtgbjilcfgpbcgaaW.PrintLast Go.Proofs.YtgbjilcfgpbcgaaW.PrintMore
set_option linter.unusedSimpArgs false
set_option linter.unusedVariables false
theorem lit_kept0 (w : World) {O : Nat → Prop} (hO : ∀ k, O k → k < w.heap.size) (x : Int) : ∀ W, Kept (w.alloc (.cells #[.int .u8 x] 5)) W O → kb.C W (some ⟨w.heap.size, 0, none⟩) 1 [x] := fun W hk =>
  lit_C (fr := (0, 0)) ((hk.2 w.heap.size (by simp) (fun h => by have := hO _ h; omega)).trans (heap_alloc_new w _))
theorem one_cell {w : World} {b c : Nat} {ok : Nat → Prop} {A : Option Addr} {v : Int} (h : kb.R 5 w b ok (.slice A 1 c) [v]) : ∃ g, A = some ⟨g, 0, none⟩ ∧ w.cell? ⟨g, 0, none⟩ = some (.int .u8 v) := by
  have ho := Kd.own_of_R h
  rcases ho.2 with ⟨hv, h0⟩ | ⟨g, cap, cur, hv, h1, h2, h3, h4, h5, h6⟩
  · cases h0
  · injection hv with hA _ _
    refine ⟨g, hA, ?_⟩
    obtain ⟨_, _, hC⟩ := Kd.R_reads' h
    obtain ⟨ad, e, hc⟩ := Kd.at_int hC 0 (by decide) (by simp)
    rw [hA] at e
    injection e with e
    subst e
    simpa [Addr.add, rd] using hc
set_option maxHeartbeats 8000000 in
set_option maxRecDepth 100000 in
theorem walks_calls (w : World) (m : Int) (A : Option Addr) (l : List Int) (n c : Nat) (hC : ki.C w A n l) (hln : l.length = n) (hc : n ≤ c) (hn : n ≤ 100000000000000) (hq : ∀ x ∈ l, I64 x) :
    Calls Try.prog 3 #[.int .i64 m, .slice A n c] w fun e w' => e = .returned (.bool true) ∧ Below w.heap.size w w' := by
  have HC := Aside0.mk hC
  have HLN := Aside0.mk hln
  have HN := Aside0.mk hn
  have HQ := Aside0.mk hq
  obtain ⟨k, hk0, hk63⟩ := and_low m 63 (by decide)
  have hk : bits .and .i64 m 63 = (k : Int) := hk0
  have HK := Aside0.mk hk63
  clear hC hln hn hq hk0 hk63
  go_enter Try.func3, Try.ntmps3
  go_wp2_with (first
    | (go_at_call 7; (with_reducible refine (speaks_calls _).mono ?_); rintro e w1 ⟨rfl, hb⟩; have HB := Aside0.mk hb; clear hb)
    | (go_at_call 8; (with_reducible refine (H8.new _ w.heap.size HB.out.size).mono ?_); rintro e w2 ⟨hb, rfl, h1, hb2⟩; have HH := Aside0.mk h1; have n0_ := Aside0.mk (HB.out.trans (hb2.mono HB.out.size)); clear HB; have HB := n0_; clear n0_ h1 hb2))
  clear hk
  go_loopg [6] k (fun kq v6 W => ∃ (i : Nat) (S : St) (O : Nat → Prop), v6 = .int .i64 i ∧ Aside0 (i ≤ k ∧ kq = k - i) ∧ Aside0 (H8 w.heap.size W hb S i O) ∧ Aside0 (S.last = (i : Int) ∧ RowsAre S) ∧ Aside0 (Below w.heap.size w W))
  case atStart => exact ⟨0, S0, _, rfl, ⟨by omega, by omega⟩, HH, ⟨rfl, fun e he => by cases he⟩, HB⟩
  case round =>
    clear HH HB
    obtain ⟨i, S, O, rfl, HI, HH, HS, HB⟩ := hrel
    by_cases hlt : i < k
    · have q1 : decide ((i : Int) < (k : Int)) = true := decide_eq_true (by omega)
      have hw : IntKind.u8.wrap (i : Int) = (i : Int) := by rw [IntKind.wrap_u8]; have := HK.out; omega
      have HL := Aside0.mk (lit_kept0 wr (fun k ho => (HH.out.own k ho).2) (i : Int))
      have HH1 := Aside0.mk (HH.out.below (below_alloc (Below.refl _ _) (.cells #[.int .u8 (i : Int)] 5)))
      have HB1 := Aside0.mk (HB.out.alloc HB.out.size (.cells #[.int .u8 (i : Int)] 5))
      have HNI : Aside0 ((i : Int) + 1 ≤ 4000000000000) := ⟨by have := HK.out; omega⟩
      go_wp2_with (first | (go_at_call 9; (with_reducible refine (HH1.out.addC HNI.out HL.out rfl (by decide)).mono ?_); rintro e w4 ⟨rfl, hn⟩; have HE := Aside0.mk (hn.heap.mono (M := ((i + 1 : Nat) : Int)) (by omega)); have HBE := Aside0.mk (HB1.out.trans hn.fr.low); clear hn HH1 HB1 HL))
      go_roundg (k - (i + 1))
      case measure => have := HI.out; omega
      case rel => exact ⟨i + 1, _, _, congrArg (Value.int .i64) (by have := HI.out; have := HK.out; simp only [wrap64]; omega), ⟨by omega, rfl⟩, HE, ⟨by rw [add_last, HS.out.1]; rfl, by have := rows_add HS.out.2; rwa [HS.out.1] at this⟩, HBE⟩
    · have q1 : decide ((i : Int) < (k : Int)) = false := decide_eq_false (by omega)
      have HHk := Aside0.mk (HH.out.mono (M := (k : Int)) (by have := HI.out; omega))
      have HRA := Aside0.mk HS.out.2
      clear HH HS HI
      go_wp2
      clear hlt q1
      go_loopg [37] n (fun kq v37 W => ∃ (i : Nat) (S : St) (O : Nat → Prop), v37 = .int .i64 i ∧ Aside0 (i ≤ n ∧ kq = n - i) ∧ Aside0 (H8 w.heap.size W hb S k O) ∧ Aside0 (RowsAre S) ∧ Aside0 (Below w.heap.size w W))
      case atStart => exact ⟨0, S, O, rfl, ⟨by omega, by omega⟩, HHk, HRA, HB⟩
      case round =>
        clear HHk HRA HB
        obtain ⟨i, S, O, rfl, HI, HH, HS, HB⟩ := hrel
        have HNK : Aside0 ((k : Int) ≤ 4000000000000) := ⟨by have := HK.out; omega⟩
        by_cases hlt : i < n
        · have q1 : decide ((i : Int) < (n : Int)) = true := decide_eq_true (by omega)
          have j0 : (0 : Int) ≤ (i : Int) := by omega
          have j1 : (i : Int) < (n : Int) := by omega
          have j2 : ((i : Int)).toNat = i := by omega
          have hc0 : ki.C w A l.length l := by rw [HLN.out]; exact HC.out
          obtain ⟨ad, e, x0⟩ := Kd.at_int hc0 (i : Int) j0 (by rw [HLN.out]; exact j1)
          cases e
          rw [j2] at x0
          have x1 := (HB.out.cell (World.block_lt_of_cell? w _ x0)).trans x0
          have hy : I64 (rd l (i : Int)) := HQ.out _ (by
            have : rd l (i : Int) = l[i]'(by rw [HLN.out]; exact hlt) := by simp [rd, HLN.out, hlt]
            rw [this]; exact List.getElem_mem _)
          obtain ⟨y, hy2⟩ : ∃ y, rd l (i : Int) = y := ⟨_, rfl⟩
          rw [hy2] at x1 hy
          have HY := Aside0.mk hy
          clear x0 hy hy2 hc0
          go_wp2_with (first | (go_at_call 10; (with_reducible refine (HH.out.drop HNK.out y HY.out).mono ?_); rintro e w4 ⟨rfl, hn⟩; have HE := Aside0.mk hn.heap; have HBE := Aside0.mk (HB.out.trans hn.fr.low); have HSE := Aside0.mk (rows_drop HH.out.inv HS.out y); clear hn HH HB HS))
          go_roundg (n - (i + 1))
          case measure => have := HI.out; omega
          case rel => exact ⟨i + 1, _, _, congrArg (Value.int .i64) (by have := HI.out; have := HN.out; simp only [wrap64]; omega), ⟨by omega, rfl⟩, HE, HSE, HBE⟩
        · have q1 : decide ((i : Int) < (n : Int)) = false := decide_eq_false (by omega)
          go_wp2
          clear hlt q1 HI
          have HML : Aside0 (S.ents.length ≤ k) := ⟨by have := HH.out.inv.cnt; have := HH.out.inv.bd; omega⟩
          have HINV := Aside0.mk HH.out.inv
          go_loopg [9, 10] S.ents.length (fun kq v9 v10 W => ∃ (a : Int), v9 = .int .i64 (metP S a) ∧ v10 = .int .i64 a ∧ Aside0 (0 ≤ a ∧ kq = S.ents.length - metP S a) ∧ Aside0 (H8 w.heap.size W hb S k O) ∧ Aside0 (Below w.heap.size w W))
          case atStart => exact ⟨0, by rw [met_zero HINV.out]; rfl, rfl, ⟨Int.le_refl _, by rw [met_zero HINV.out]; rfl⟩, HH, HB⟩
          case round =>
            clear HH HB
            obtain ⟨a, rfl, rfl, HA, HH, HB⟩ := hrel
            cases hb1 : behP S a with
            | none =>
              have HM : Aside0 (metP S a = S.ents.length) := ⟨beh_none HINV.out hb1⟩
              have HBV : Aside0 (behV (behP S a) = .tuple #[.int .i64 0, .bool false]) := ⟨by rw [hb1]; rfl⟩
              have HBD : Aside0 (pagesN S ≤ 100) := ⟨by have := HINV.out.bd; have := HK.out; unfold pagesN; omega⟩
              obtain ⟨np, hnp⟩ : ∃ np, pagesN S = np := ⟨_, rfl⟩
              have HNP := Aside0.mk hnp
              rw [hnp] at HBD
              clear hb1 hnp
              go_wp2_with (first
                | (go_at_call 11; (with_reducible refine (HH.out.behind HNK.out a).mono ?_); rintro e w3 ⟨he, hb3⟩; rw [HBV.out] at he; subst he; have n0_ := Aside0.mk (HH.out.below hb3); have n1_ := Aside0.mk (HB.out.trans (hb3.mono HB.out.size)); clear HH HB hb3; have HH := n0_; have HB := n1_; clear n0_ n1_)
                | (go_at_call 13; (with_reducible refine (HH.out.pages HNK.out).mono ?_); rintro e w4 ⟨v, he, hR, hb4⟩; subst he; obtain ⟨A8, c8, ev⟩ := Kd.R_slice hR; rw [pages_len, HNP.out] at ev; subst ev; have HR8 := Aside0.mk hR; clear hR; have n0_ := Aside0.mk (HH.out.below hb4); have n1_ := Aside0.mk (HB.out.trans (hb4.mono HB.out.size)); clear HH HB hb4; have HH := n0_; have HB := n1_; clear n0_ n1_))
              obtain ⟨q, hq⟩ : ∃ q, metP S a = q := ⟨_, rfl⟩
              rw [hq]
              rw [hq] at HM
              have HMQ := Aside0.mk hq
              clear hq
              obtain ⟨W8, HW8⟩ : ∃ W8 : World, W8 = w4 := ⟨_, rfl⟩
              rw [← HW8] at HR8
              have HBW : Aside0 (Below W8.heap.size W8 w4) := ⟨by rw [HW8]; exact Below.refl _ _⟩
              clear HW8
              go_loopg [15, 91] np (fun kq v15 v91 W => ∃ (j : Nat), v15 = .int .i64 (pgP S j) ∧ v91 = .int .i64 j ∧ Aside0 (j ≤ np ∧ kq = np - j) ∧ Aside0 (H8 w.heap.size W hb S k O) ∧ Aside0 (Below w.heap.size w W) ∧ Aside0 (Below W8.heap.size W8 W))
              case atStart => exact ⟨0, by rw [pg_zero HINV.out]; rfl, rfl, ⟨by omega, by omega⟩, HH, HB, HBW⟩
              case round =>
                clear HH HB HBW
                obtain ⟨j, rfl, rfl, HJ, HH, HB, HBW⟩ := hrel
                by_cases hj : j < np
                · have j0 : (0 : Int) ≤ (j : Int) := by omega
                  have j1 : (j : Int) < (np : Int) := by omega
                  have j2 : ((j : Int)).toNat = j := by omega
                  have q1 : decide ((j : Int) < (np : Int)) = true := decide_eq_true (by omega)
                  obtain ⟨hn1, _, hC8⟩ := Kd.R_reads' HR8.out
                  obtain ⟨ad, e, x0⟩ := Kd.at_int hC8 (j : Int) j0 (by rw [← hn1]; exact j1)
                  cases e
                  rw [j2] at x0
                  have x1 := (HBW.out.cell (World.block_lt_of_cell? W8 _ x0)).trans x0
                  have hst := pages_step S (i := j) (by rw [HNP.out]; exact hj)
                  obtain ⟨u, hu⟩ : ∃ u, rd (pagesP S) (j : Int) = u := ⟨_, rfl⟩
                  rw [show rdOf 0 (pagesP S) (j : Int) = rd (pagesP S) (j : Int) from rfl, hu] at hst
                  rw [hu] at x1
                  have hp1 := pg_le S j
                  have hp2 := pg_le S (j + 1)
                  have hkk := HK.out
                  have hml := HML.out
                  have HST : Aside0 (wrap64 ((pgP S j : Int) + u) = (pgP S (j + 1) : Int)) := ⟨by rw [hst]; simp only [wrap64]; omega⟩
                  clear x0 hst hu hp1 hp2 hkk hml hC8 hn1
                  go_wp2
                  go_roundg (np - (j + 1))
                  case measure => have := HJ.out; omega
                  case rel => exact ⟨j + 1, congrArg (Value.int .i64) HST.out, congrArg (Value.int .i64) (by have := HBD.out; simp only [wrap64]; omega), ⟨by omega, rfl⟩, HH, HB, HBW⟩
                · have q1 : decide ((j : Int) < (np : Int)) = false := decide_eq_false (by omega)
                  have hpe : pgP S j = q := by
                    have e : j = np := by have := HJ.out; omega
                    rw [e, ← HNP.out, pg_end HINV.out, HM.out]
                  rw [hpe]
                  have HLE : Aside0 (S.ents.length = q) := ⟨HM.out.symm⟩
                  go_wp2_with (first | (go_at_call 14; (with_reducible refine (HH.out.len).mono ?_); rintro e w5 ⟨he, rfl⟩; rw [HLE.out] at he; subst he))
                  go_ret
                  exact ⟨rfl, HB.out⟩
            | some y =>
              obtain ⟨y1, y2, y3⟩ := beh_some HINV.out hb1
              have HBV : Aside0 (behV (behP S a) = .tuple #[.int .i64 y, .bool true]) := ⟨by rw [hb1]; rfl⟩
              obtain ⟨x, hx⟩ := find_mem y1
              obtain ⟨x1, x2⟩ := find_some hx
              have hrow : x.row = [y - 1] := by rw [← x2]; exact HS.out x x1
              have hid := HINV.out.idr x x1
              have hbd := HINV.out.bd
              rw [x2] at hid
              have HKN := HK.out
              have z1 : 1 ≤ y := hid.1
              have z2 : y ≤ 63 := by omega
              have HID : Aside0 (I64 y) := ⟨⟨by omega, by omega⟩⟩
              have q2 : decide (y ≤ a) = false := decide_eq_false (by omega)
              have hml := met_le S a
              have hmk := HML.out
              have q3 : ¬ (k < metP S a) := by omega
              have HX := Aside0.mk hx
              have HROW := Aside0.mk hrow
              have HM := Aside0.mk y3
              have HMG : Aside0 (wrap64 ((metP S a : Int) + 1) = (metP S y : Int)) := ⟨by rw [y3]; simp only [wrap64]; omega⟩
              have HY2 := Aside0.mk y2
              have HY3 : Aside0 (metP S y ≤ S.ents.length) := ⟨met_le S y⟩
              clear hb1 y1 y2 y3 hx x1 x2 hrow hid hbd HKN hml hmk
              go_wp2_with (first
                | (go_at_call 11; (with_reducible refine (HH.out.behind HNK.out a).mono ?_); rintro e w3 ⟨he, hb3⟩; rw [HBV.out] at he; subst he; have n0_ := Aside0.mk (HH.out.below hb3); have n1_ := Aside0.mk (HB.out.trans (hb3.mono HB.out.size)); clear HH HB hb3; have HH := n0_; have HB := n1_; clear n0_ n1_)
                | (go_at_call 12; (with_reducible refine (HH.out.get_some y HID.out HX.out).mono ?_); rintro e w4 ⟨A4, c4, he, hR, hb4⟩; rw [HROW.out, show ([y - 1] : List Int).length = 1 from rfl] at he hR; subst he; obtain ⟨g4, eg, x0⟩ := one_cell hR; subst eg; have n0_ := Aside0.mk (HH.out.below hb4); have n1_ := Aside0.mk (HB.out.trans (hb4.mono HB.out.size)); clear HH HB hR hb4; have HH := n0_; have HB := n1_; clear n0_ n1_))
              go_roundg (S.ents.length - metP S y)
              case measure => have := HA.out; have := HM.out; have := HY3.out; omega
              case rel => exact ⟨y, congrArg (Value.int .i64) HMG.out, rfl, ⟨by omega, rfl⟩, HH, HB⟩
end Go.Proofs.Ytgbjilcfgpbcgaa
