import Derived.Test.YtgbjilcfgpbcgaaZoH22
/- Layer 8: HeapOnce, walked. -/
namespace Go.Proofs.Ytgbjilcfgpbcgaa
open Go.RowKit Go.Proofs.YtgbjilcfgpbcgaaW.PrintWords Go.Proofs.YtgbjilcfgpbcgaaW.PrintLast Go.Proofs.YtgbjilcfgpbcgaaW.PrintMore
set_option linter.unusedSimpArgs false
set_option linter.unusedVariables false
theorem behV_eq (o : Option Int) : behV o = .tuple #[.int .i64 (o.getD 0), .bool o.isSome] := by cases o <;> rfl
theorem H8.backE {B : Nat} {w : World} {hb : Nat} {S : St} {N : Int} {O : Nat → Prop} (h : H8 B w hb S N O) (hN : N ≤ 4000000000000) (id : Int) (hid : I64 id) {bb : Nat} {A : Option Addr} {n c : Nat} {xs : List Int} (hr : kb.R 5 w bb (fun k => ¬ O k) (.slice A n c) xs) (hn : n ≤ 140737488355328) :
    Calls Try.prog 16 #[.pointer (some ⟨hb, 0, none⟩), .int .i64 id, .slice A n c] w fun e w' => e = .returned (.bool (backB S id)) ∧ ∃ S4 O4, H8 B w' hb S4 (N + 1) O4 ∧ S4.last = S.last ∧ Fr B O w w' :=
  (h.back hN id hid hr hn).mono fun e w' ⟨he, hn⟩ => ⟨he, _, _, hn.heap, back_last S id xs, hn.fr⟩
set_option maxHeartbeats 8000000 in
set_option maxRecDepth 100000 in
theorem once_calls (w : World) (A : Option Addr) (l : List S38) (n c : Nat) (hC : Kd.C k38 w A n l) (hln : l.length = n) (hc : n ≤ c) (hn : n ≤ 3600000000000) (hq : ∀ x ∈ l, Q38 x) :
    Calls Try.prog 4 #[.slice A n c] w fun e w' => e = .returned (.bool true) ∧ Below w.heap.size w w' := by
  have HC := Aside0.mk hC
  have HLN := Aside0.mk hln
  have HN := Aside0.mk hn
  have HQ := Aside0.mk hq
  clear hC hln hn hq
  go_enter Try.func4, Try.ntmps4
  go_wp2_with (first
    | (go_at_call 7; (with_reducible refine (speaks_calls _).mono ?_); rintro e w1 ⟨rfl, hb⟩; have HB := Aside0.mk hb; clear hb)
    | (go_at_call 8; (with_reducible refine (H8.new _ w.heap.size HB.out.size).mono ?_); rintro e w2 ⟨hb, rfl, h1, hb2⟩; have HH := Aside0.mk h1; have n0_ := Aside0.mk (HB.out.trans (hb2.mono HB.out.size)); clear HB; have HB := n0_; clear n0_ h1 hb2))
  go_loopg [4, 20] n (fun kq v4 v20 W => ∃ (i : Nat) (S : St) (O : Nat → Prop) (lv : Int), v4 = .int .i64 lv ∧ v20 = .int .i64 i ∧ Aside0 (i ≤ n ∧ kq = n - i) ∧ Aside0 (H8 w.heap.size W hb S i O) ∧ Aside0 (S.last = lv) ∧ Aside0 (Below w.heap.size w W))
  case atStart => exact ⟨0, S0, _, 0, rfl, rfl, ⟨by omega, by omega⟩, HH, ⟨rfl⟩, HB⟩
  case round =>
    clear HH HB
    obtain ⟨i, S, O, lv, rfl, rfl, HI, HH, HLV, HB⟩ := hrel
    by_cases hlt : i < n
    · obtain ⟨ad, A1, c1, e, x0, x1, x2, hl1, hk1⟩ := at38B HC.out HB.out i hlt
      cases e
      have q1 : decide ((i : Int) < (n : Int)) = true := decide_eq_true (by omega)
      have j0 : (0 : Int) ≤ (i : Int) := by omega
      have j1 : (i : Int) < (n : Int) := by omega
      have j2 : ((i : Int)).toNat = i := by omega
      have HQ1 := Aside0.mk (HQ.out _ (rd38_mem (by rw [HLN.out]; exact hlt)))
      obtain ⟨z, hz⟩ : ∃ z, rd38 l i = z := ⟨_, rfl⟩
      rw [hz] at x0 x1 x2 HQ1
      rw [hz] at hl1 hk1
      have HK1 := Aside0.mk hk1
      have HL1 := Aside0.mk hl1
      clear hz hk1 hl1
      go_upto_region 10 with (fail)
      clear x0 x1 x2
      have hbx := heap_alloc_new wr (.cells #[.int .i64 z.f0, .int .i64 z.f1, .slice A1 z.f2.length c1] 38)
      have hb2 := below_alloc (Below.refl wr.heap.size wr) (.cells #[.int .i64 z.f0, .int .i64 z.f1, .slice A1 z.f2.length c1] 38)
      have hh2 := Aside0.mk (HH.out.below hb2)
      have hB2 := Aside0.mk (HB.out.trans (hb2.mono HB.out.size))
      obtain ⟨g, hg⟩ : ∃ g, wr.heap.size = g := ⟨_, rfl⟩
      rw [hg] at hbx
      rw [hg]
      generalize wr.alloc (.cells #[.int .i64 z.f0, .int .i64 z.f1, .slice A1 z.f2.length c1] 38) = W2 at hbx hh2 hB2 ⊢
      clear HH HB hb2 hg
      have y0 : W2.cell? ⟨g, 0, none⟩ = some (.int .i64 z.f0) := (blk_cell hbx 0).trans rfl
      have y1 : W2.cell? ⟨g, 1, none⟩ = some (.int .i64 z.f1) := (blk_cell hbx 1).trans rfl
      have y2 : W2.cell? ⟨g, 2, none⟩ = some (.slice A1 z.f2.length c1) := (blk_cell hbx 2).trans rfl
      have HBX := Aside0.mk hbx
      have HNI : Aside0 ((i : Int) + 1 ≤ 4000000000000) := ⟨by have := HN.out; omega⟩
      obtain ⟨kk, hkk0, hkk1⟩ := and_low z.f0 3 (by decide)
      have hkk : bits .and .i64 z.f0 3 = (kk : Int) := hkk0
      clear hkk0 hbx
      have hcase : kk = 0 ∨ kk = 1 ∨ kk = 2 ∨ kk = 3 := by omega
      clear hkk1
      rcases hcase with rfl | rfl | rfl | rfl
      · go_upto_region 20 with (first
          | (go_at_call 15; (with_reducible refine (copy_calls A1 _ c1 _ W2 rfl HL1.out (Nat.le_trans HQ1.out.2.2 (by decide)) (HK1.out W2 hB2.out)).mono ?_); rintro e w3 ⟨v, rfl, hR, hb3⟩; have HR := Aside0.mk (new_ok hR (fun k ho => (hh2.out.own k ho).2)); obtain ⟨A3, c3, ev⟩ := Kd.R_slice hR; subst ev; have HH := Aside0.mk (hh2.out.below hb3); have HB := Aside0.mk (hB2.out.trans (hb3.mono hB2.out.size)); clear hR hb3 hh2 hB2)
          | (go_at_call 9; (with_reducible refine (HH.out.add HNI.out HR.out (Nat.le_trans HQ1.out.2.2 (by decide))).mono ?_); rintro e W4 ⟨he, hn⟩; rw [HLV.out] at he; obtain ⟨lz, hlz⟩ : ∃ lz, lv + 1 = lz := ⟨_, rfl⟩; rw [hlz] at he; subst he; obtain ⟨S4, hS4⟩ : ∃ S4, S4 = addP S z.f2 := ⟨_, rfl⟩; obtain ⟨O4, hO4⟩ : ∃ O4, O4 = grow O w3 W4 := ⟨_, rfl⟩; rw [← hS4, ← hO4] at hn; have HE := Aside0.mk (hn.heap.mono (M := ((i + 1 : Nat) : Int)) (by omega)); have HBE := Aside0.mk (HB.out.trans hn.fr.low); have HLZ : Aside0 (S4.last = lz) := ⟨by rw [hS4]; exact (add_last S z.f2).trans ((congrArg (· + 1) HLV.out).trans hlz)⟩; have qz : decide (lz ≤ lv) = false := decide_eq_false (by omega); clear hn hlz HH HB HR hS4 hO4))
        have hmm := @run_makeMap Try.prog
        go_upto_region 21 with (fail)
        have hm0 := MapG.made W4
        have HMG : Aside0 (MapG (W4.alloc (.map #[] 0)) W4.heap.size 0 (fun _ => none)) := ⟨hm0⟩
        have hbl := below_alloc (Below.refl W4.heap.size W4) (.map #[] 0)
        have HH := Aside0.mk (HE.out.below hbl)
        have HB := Aside0.mk (HBE.out.trans (hbl.mono HBE.out.size))
        obtain ⟨mp, hmp⟩ : ∃ mp, W4.heap.size = mp := ⟨_, rfl⟩
        rw [hmp] at HMG
        rw [hmp]
        have HMO : Aside0 (¬ O4 mp ∧ w.heap.size ≤ mp) := ⟨⟨fun ho => by have := (HE.out.own mp ho).2; omega, by have := HBE.out.size; omega⟩⟩
        generalize W4.alloc (.map #[] 0) = W5 at HMG HH HB ⊢
        clear HE HBE hm0 hbl hmp hmm
        have HINV := Aside0.mk HH.out.inv
        have HNK : Aside0 (((i + 1 : Nat) : Int) ≤ 4000000000000) := ⟨by have := HNI.out; omega⟩
        go_wp2_with (first | (go_at_call 11; (with_reducible refine (HH.out.behind HNK.out 0).mono ?_); rintro e w6 ⟨he, hb6⟩; rw [behV_eq] at he; subst he; have n0_ := Aside0.mk (HH.out.below hb6); have n1_ := Aside0.mk (HB.out.trans (hb6.mono HB.out.size)); have n2_ := Aside0.mk (HMG.out.blk (hb6.block mp HMG.out.lt)); clear HH HB hb6 HMG; have HH := n0_; have HB := n1_; have HMG := n2_; clear n0_ n1_ n2_))
        go_loopg [9, 10] S4.ents.length (fun kq v9 v10 W => ∃ (a y : Int) (b : Bool), v9 = .int .i64 y ∧ v10 = .bool b ∧ Aside0 (b = (behP S4 a).isSome ∧ y = (behP S4 a).getD 0) ∧ Aside0 (kq = S4.ents.length - metP S4 a) ∧ Aside0 (H8 w.heap.size W hb S4 ((i + 1 : Nat) : Int) O4) ∧ Aside0 (MapG W mp (metP S4 a) (fP (PL S4 a))) ∧ Aside0 (Below w.heap.size w W))
        case atStart => exact ⟨0, _, _, rfl, rfl, ⟨⟨rfl, rfl⟩⟩, ⟨by rw [met_zero HINV.out]; rfl⟩, HH, ⟨by rw [met_zero HINV.out, pl_zero HINV.out, fP_nil]; exact HMG.out⟩, HB⟩
        case round =>
          clear HH HB HMG
          obtain ⟨a, y, b, rfl, rfl, HY, HA, HH, HMG, HB⟩ := hrel
          cases hb1 : behP S4 a with
          | none =>
            have hb2 := HY.out.1
            rw [hb1] at hb2
            obtain rfl : b = false := hb2
            clear hb1
            go_wp2
            go_roundg (n - (i + 1))
            case measure => have := HI.out; omega
            case rel => exact ⟨i + 1, S4, O4, lz, rfl, congrArg (Value.int .i64) (by have := HI.out; have := HN.out; simp only [wrap64]; omega), ⟨by omega, rfl⟩, HH, HLZ, HB⟩
          | some y2 =>
            have hb2 := HY.out
            rw [hb1] at hb2
            obtain rfl : b = true := hb2.1
            obtain rfl : y = y2 := hb2.2
            obtain ⟨z1, z2, z3⟩ := beh_some HINV.out hb1
            obtain ⟨x, hx⟩ := find_mem z1
            obtain ⟨e1, e2⟩ := find_some hx
            have hid := HINV.out.idr x e1
            have hsl := HINV.out.sl x e1
            have hbd := HINV.out.bd
            rw [e2] at hid
            have hnk := HNK.out
            have HID : Aside0 (I64 y) := ⟨⟨by omega, by omega⟩⟩
            have HMN := Aside0.mk (fun (W : World) (hm : MapG W mp (metP S4 a) (fP (PL S4 a))) => map_next HINV.out HNK.out hb1 hx hm)
            obtain ⟨s, hs⟩ : ∃ s, x.slot = s := ⟨_, rfl⟩
            have HPL : Aside0 (placeP (some x) = (s / 16, s % 16)) := ⟨by rw [← hs]; rfl⟩
            rw [hs] at HMN hsl
            obtain ⟨p, hp⟩ : ∃ p, s / 16 = p := ⟨_, rfl⟩
            obtain ⟨t, ht⟩ : ∃ t, s % 16 = t := ⟨_, rfl⟩
            rw [hp, ht] at HPL
            have hspt : s = p * 16 + t := by omega
            have t0 : 0 ≤ t := by omega
            have t1 : t ≤ 15 := by omega
            have p0 : 0 ≤ p := by omega
            have p1 : p ≤ 4000000000000 := by omega
            rw [hspt] at HMN
            have w1 : IntKind.i64.wrap (p * 16) = p * 16 := by rw [IntKind.wrap_i64]; omega
            have w2 : IntKind.i64.wrap (p * 16 + t) = p * 16 + t := by rw [IntKind.wrap_i64]; omega
            have w3 : wrap64 (p * 16) = p * 16 := by simp only [wrap64]; omega
            have w4 : wrap64 (p * 16 + t) = p * 16 + t := by simp only [wrap64]; omega
            have q3 : decide (t < 0) = false := decide_eq_false (by omega)
            have q4 : decide (t > 15) = false := decide_eq_false (by omega)
            have hml := met_le S4 y
            have hcn := HINV.out.cnt
            have q5 : ¬ (n < metP S4 y) := by omega
            have HX := Aside0.mk hx
            have HM := Aside0.mk z3
            have HML := Aside0.mk hml
            clear hb1 hb2 z1 z2 z3 hx e1 e2 hid hsl hbd hnk hs hp ht hspt hml hcn
            go_wp2_with (first
              | (go_at_call 17; (with_reducible refine (HH.out.place HNK.out y HID.out).mono ?_); rintro e w7 ⟨he, hb7⟩; rw [HX.out, HPL.out] at he; subst he; obtain ⟨w8, hrun, hm8, hg8, hk7, hk8, hlen8⟩ := HMN.out w7 (HMG.out.blk (hb7.block mp HMG.out.lt)); have n0_ := Aside0.mk ((HH.out.below hb7).grown hg8 HMO.out.1); have n1_ := Aside0.mk ((HB.out.trans (hb7.mono HB.out.size)).trans ⟨hg8.os, hg8.tape, hg8.output, hg8.size, fun k hk => hg8.block k (Nat.lt_of_lt_of_le hk (Nat.le_trans HB.out.size hb7.size)) (fun e => by injection e with e; have := HMO.out.2; omega)⟩); have n2_ := Aside0.mk hm8; clear HH HB hb7 HMG hm8 hg8; have HH := n0_; have HB := n1_; have HMG := n2_; clear n0_ n1_ n2_)
              | (go_at_call 11; (with_reducible refine (HH.out.behind HNK.out y).mono ?_); rintro e w9 ⟨he, hb9⟩; rw [behV_eq] at he; subst he; have n0_ := Aside0.mk (HH.out.below hb9); have n1_ := Aside0.mk (HB.out.trans (hb9.mono HB.out.size)); have n2_ := Aside0.mk (HMG.out.blk (hb9.block mp HMG.out.lt)); clear HH HB hb9 HMG; have HH := n0_; have HB := n1_; have HMG := n2_; clear n0_ n1_ n2_))
            go_roundg (S4.ents.length - metP S4 y)
            case measure => have := HA.out; have := HM.out; have := HML.out; omega
            case rel => exact ⟨y, _, _, rfl, rfl, ⟨⟨rfl, rfl⟩⟩, ⟨rfl⟩, HH, HMG, HB⟩
      · go_upto_region 20 with (first
          | (go_at_call 15; (with_reducible refine (copy_calls A1 _ c1 _ W2 rfl HL1.out (Nat.le_trans HQ1.out.2.2 (by decide)) (HK1.out W2 hB2.out)).mono ?_); rintro e w3 ⟨v, rfl, hR, hb3⟩; have HR := Aside0.mk (new_ok hR (fun k ho => (hh2.out.own k ho).2)); obtain ⟨A3, c3, ev⟩ := Kd.R_slice hR; subst ev; have HH := Aside0.mk (hh2.out.below hb3); have HB := Aside0.mk (hB2.out.trans (hb3.mono hB2.out.size)); clear hR hb3 hh2 hB2)
          | (go_at_call 9; (with_reducible refine (HH.out.add HNI.out HR.out (Nat.le_trans HQ1.out.2.2 (by decide))).mono ?_); rintro e W4 ⟨he, hn⟩; rw [HLV.out] at he; obtain ⟨lz, hlz⟩ : ∃ lz, lv + 1 = lz := ⟨_, rfl⟩; rw [hlz] at he; subst he; obtain ⟨S4, hS4⟩ : ∃ S4, S4 = addP S z.f2 := ⟨_, rfl⟩; obtain ⟨O4, hO4⟩ : ∃ O4, O4 = grow O w3 W4 := ⟨_, rfl⟩; rw [← hS4, ← hO4] at hn; have HE := Aside0.mk (hn.heap.mono (M := ((i + 1 : Nat) : Int)) (by omega)); have HBE := Aside0.mk (HB.out.trans hn.fr.low); have HLZ : Aside0 (S4.last = lz) := ⟨by rw [hS4]; exact (add_last S z.f2).trans ((congrArg (· + 1) HLV.out).trans hlz)⟩; have qz : decide (lz ≤ lv) = false := decide_eq_false (by omega); clear hn hlz HH HB HR hS4 hO4))
        have hmm := @run_makeMap Try.prog
        go_upto_region 21 with (fail)
        have hm0 := MapG.made W4
        have HMG : Aside0 (MapG (W4.alloc (.map #[] 0)) W4.heap.size 0 (fun _ => none)) := ⟨hm0⟩
        have hbl := below_alloc (Below.refl W4.heap.size W4) (.map #[] 0)
        have HH := Aside0.mk (HE.out.below hbl)
        have HB := Aside0.mk (HBE.out.trans (hbl.mono HBE.out.size))
        obtain ⟨mp, hmp⟩ : ∃ mp, W4.heap.size = mp := ⟨_, rfl⟩
        rw [hmp] at HMG
        rw [hmp]
        have HMO : Aside0 (¬ O4 mp ∧ w.heap.size ≤ mp) := ⟨⟨fun ho => by have := (HE.out.own mp ho).2; omega, by have := HBE.out.size; omega⟩⟩
        generalize W4.alloc (.map #[] 0) = W5 at HMG HH HB ⊢
        clear HE HBE hm0 hbl hmp hmm
        have HINV := Aside0.mk HH.out.inv
        have HNK : Aside0 (((i + 1 : Nat) : Int) ≤ 4000000000000) := ⟨by have := HNI.out; omega⟩
        go_wp2_with (first | (go_at_call 11; (with_reducible refine (HH.out.behind HNK.out 0).mono ?_); rintro e w6 ⟨he, hb6⟩; rw [behV_eq] at he; subst he; have n0_ := Aside0.mk (HH.out.below hb6); have n1_ := Aside0.mk (HB.out.trans (hb6.mono HB.out.size)); have n2_ := Aside0.mk (HMG.out.blk (hb6.block mp HMG.out.lt)); clear HH HB hb6 HMG; have HH := n0_; have HB := n1_; have HMG := n2_; clear n0_ n1_ n2_))
        go_loopg [9, 10] S4.ents.length (fun kq v9 v10 W => ∃ (a y : Int) (b : Bool), v9 = .int .i64 y ∧ v10 = .bool b ∧ Aside0 (b = (behP S4 a).isSome ∧ y = (behP S4 a).getD 0) ∧ Aside0 (kq = S4.ents.length - metP S4 a) ∧ Aside0 (H8 w.heap.size W hb S4 ((i + 1 : Nat) : Int) O4) ∧ Aside0 (MapG W mp (metP S4 a) (fP (PL S4 a))) ∧ Aside0 (Below w.heap.size w W))
        case atStart => exact ⟨0, _, _, rfl, rfl, ⟨⟨rfl, rfl⟩⟩, ⟨by rw [met_zero HINV.out]; rfl⟩, HH, ⟨by rw [met_zero HINV.out, pl_zero HINV.out, fP_nil]; exact HMG.out⟩, HB⟩
        case round =>
          clear HH HB HMG
          obtain ⟨a, y, b, rfl, rfl, HY, HA, HH, HMG, HB⟩ := hrel
          cases hb1 : behP S4 a with
          | none =>
            have hb2 := HY.out.1
            rw [hb1] at hb2
            obtain rfl : b = false := hb2
            clear hb1
            go_wp2
            go_roundg (n - (i + 1))
            case measure => have := HI.out; omega
            case rel => exact ⟨i + 1, S4, O4, lz, rfl, congrArg (Value.int .i64) (by have := HI.out; have := HN.out; simp only [wrap64]; omega), ⟨by omega, rfl⟩, HH, HLZ, HB⟩
          | some y2 =>
            have hb2 := HY.out
            rw [hb1] at hb2
            obtain rfl : b = true := hb2.1
            obtain rfl : y = y2 := hb2.2
            obtain ⟨z1, z2, z3⟩ := beh_some HINV.out hb1
            obtain ⟨x, hx⟩ := find_mem z1
            obtain ⟨e1, e2⟩ := find_some hx
            have hid := HINV.out.idr x e1
            have hsl := HINV.out.sl x e1
            have hbd := HINV.out.bd
            rw [e2] at hid
            have hnk := HNK.out
            have HID : Aside0 (I64 y) := ⟨⟨by omega, by omega⟩⟩
            have HMN := Aside0.mk (fun (W : World) (hm : MapG W mp (metP S4 a) (fP (PL S4 a))) => map_next HINV.out HNK.out hb1 hx hm)
            obtain ⟨s, hs⟩ : ∃ s, x.slot = s := ⟨_, rfl⟩
            have HPL : Aside0 (placeP (some x) = (s / 16, s % 16)) := ⟨by rw [← hs]; rfl⟩
            rw [hs] at HMN hsl
            obtain ⟨p, hp⟩ : ∃ p, s / 16 = p := ⟨_, rfl⟩
            obtain ⟨t, ht⟩ : ∃ t, s % 16 = t := ⟨_, rfl⟩
            rw [hp, ht] at HPL
            have hspt : s = p * 16 + t := by omega
            have t0 : 0 ≤ t := by omega
            have t1 : t ≤ 15 := by omega
            have p0 : 0 ≤ p := by omega
            have p1 : p ≤ 4000000000000 := by omega
            rw [hspt] at HMN
            have w1 : IntKind.i64.wrap (p * 16) = p * 16 := by rw [IntKind.wrap_i64]; omega
            have w2 : IntKind.i64.wrap (p * 16 + t) = p * 16 + t := by rw [IntKind.wrap_i64]; omega
            have w3 : wrap64 (p * 16) = p * 16 := by simp only [wrap64]; omega
            have w4 : wrap64 (p * 16 + t) = p * 16 + t := by simp only [wrap64]; omega
            have q3 : decide (t < 0) = false := decide_eq_false (by omega)
            have q4 : decide (t > 15) = false := decide_eq_false (by omega)
            have hml := met_le S4 y
            have hcn := HINV.out.cnt
            have q5 : ¬ (n < metP S4 y) := by omega
            have HX := Aside0.mk hx
            have HM := Aside0.mk z3
            have HML := Aside0.mk hml
            clear hb1 hb2 z1 z2 z3 hx e1 e2 hid hsl hbd hnk hs hp ht hspt hml hcn
            go_wp2_with (first
              | (go_at_call 17; (with_reducible refine (HH.out.place HNK.out y HID.out).mono ?_); rintro e w7 ⟨he, hb7⟩; rw [HX.out, HPL.out] at he; subst he; obtain ⟨w8, hrun, hm8, hg8, hk7, hk8, hlen8⟩ := HMN.out w7 (HMG.out.blk (hb7.block mp HMG.out.lt)); have n0_ := Aside0.mk ((HH.out.below hb7).grown hg8 HMO.out.1); have n1_ := Aside0.mk ((HB.out.trans (hb7.mono HB.out.size)).trans ⟨hg8.os, hg8.tape, hg8.output, hg8.size, fun k hk => hg8.block k (Nat.lt_of_lt_of_le hk (Nat.le_trans HB.out.size hb7.size)) (fun e => by injection e with e; have := HMO.out.2; omega)⟩); have n2_ := Aside0.mk hm8; clear HH HB hb7 HMG hm8 hg8; have HH := n0_; have HB := n1_; have HMG := n2_; clear n0_ n1_ n2_)
              | (go_at_call 11; (with_reducible refine (HH.out.behind HNK.out y).mono ?_); rintro e w9 ⟨he, hb9⟩; rw [behV_eq] at he; subst he; have n0_ := Aside0.mk (HH.out.below hb9); have n1_ := Aside0.mk (HB.out.trans (hb9.mono HB.out.size)); have n2_ := Aside0.mk (HMG.out.blk (hb9.block mp HMG.out.lt)); clear HH HB hb9 HMG; have HH := n0_; have HB := n1_; have HMG := n2_; clear n0_ n1_ n2_))
            go_roundg (S4.ents.length - metP S4 y)
            case measure => have := HA.out; have := HM.out; have := HML.out; omega
            case rel => exact ⟨y, _, _, rfl, rfl, ⟨⟨rfl, rfl⟩⟩, ⟨rfl⟩, HH, HMG, HB⟩
      · go_upto_region 20 with (first
          | (go_at_call 10; (with_reducible refine (hh2.out.drop (by have := HNI.out; omega) z.f1 HQ1.out.2.1).mono ?_); rintro e W4 ⟨rfl, hn⟩; obtain ⟨S4, hS4⟩ : ∃ S4, S4 = dropP S z.f1 := ⟨_, rfl⟩; obtain ⟨O4, hO4⟩ : ∃ O4, O4 = grow O W2 W4 := ⟨_, rfl⟩; rw [← hS4, ← hO4] at hn; have HE := Aside0.mk (hn.heap.mono (M := ((i + 1 : Nat) : Int)) (by omega)); have HBE := Aside0.mk (hB2.out.trans hn.fr.low); obtain ⟨lz, hlz⟩ : ∃ lz, lv = lz := ⟨_, rfl⟩; have HLZ : Aside0 (S4.last = lz) := ⟨by rw [hS4, drop_last, HLV.out, hlz]⟩; clear hn hh2 hB2 hS4 hO4))
        try rw [hlz]
        clear hlz
        have hmm := @run_makeMap Try.prog
        go_upto_region 21 with (fail)
        have hm0 := MapG.made W4
        have HMG : Aside0 (MapG (W4.alloc (.map #[] 0)) W4.heap.size 0 (fun _ => none)) := ⟨hm0⟩
        have hbl := below_alloc (Below.refl W4.heap.size W4) (.map #[] 0)
        have HH := Aside0.mk (HE.out.below hbl)
        have HB := Aside0.mk (HBE.out.trans (hbl.mono HBE.out.size))
        obtain ⟨mp, hmp⟩ : ∃ mp, W4.heap.size = mp := ⟨_, rfl⟩
        rw [hmp] at HMG
        rw [hmp]
        have HMO : Aside0 (¬ O4 mp ∧ w.heap.size ≤ mp) := ⟨⟨fun ho => by have := (HE.out.own mp ho).2; omega, by have := HBE.out.size; omega⟩⟩
        generalize W4.alloc (.map #[] 0) = W5 at HMG HH HB ⊢
        clear HE HBE hm0 hbl hmp hmm
        have HINV := Aside0.mk HH.out.inv
        have HNK : Aside0 (((i + 1 : Nat) : Int) ≤ 4000000000000) := ⟨by have := HNI.out; omega⟩
        go_wp2_with (first | (go_at_call 11; (with_reducible refine (HH.out.behind HNK.out 0).mono ?_); rintro e w6 ⟨he, hb6⟩; rw [behV_eq] at he; subst he; have n0_ := Aside0.mk (HH.out.below hb6); have n1_ := Aside0.mk (HB.out.trans (hb6.mono HB.out.size)); have n2_ := Aside0.mk (HMG.out.blk (hb6.block mp HMG.out.lt)); clear HH HB hb6 HMG; have HH := n0_; have HB := n1_; have HMG := n2_; clear n0_ n1_ n2_))
        go_loopg [9, 10] S4.ents.length (fun kq v9 v10 W => ∃ (a y : Int) (b : Bool), v9 = .int .i64 y ∧ v10 = .bool b ∧ Aside0 (b = (behP S4 a).isSome ∧ y = (behP S4 a).getD 0) ∧ Aside0 (kq = S4.ents.length - metP S4 a) ∧ Aside0 (H8 w.heap.size W hb S4 ((i + 1 : Nat) : Int) O4) ∧ Aside0 (MapG W mp (metP S4 a) (fP (PL S4 a))) ∧ Aside0 (Below w.heap.size w W))
        case atStart => exact ⟨0, _, _, rfl, rfl, ⟨⟨rfl, rfl⟩⟩, ⟨by rw [met_zero HINV.out]; rfl⟩, HH, ⟨by rw [met_zero HINV.out, pl_zero HINV.out, fP_nil]; exact HMG.out⟩, HB⟩
        case round =>
          clear HH HB HMG
          obtain ⟨a, y, b, rfl, rfl, HY, HA, HH, HMG, HB⟩ := hrel
          cases hb1 : behP S4 a with
          | none =>
            have hb2 := HY.out.1
            rw [hb1] at hb2
            obtain rfl : b = false := hb2
            clear hb1
            go_wp2
            go_roundg (n - (i + 1))
            case measure => have := HI.out; omega
            case rel => exact ⟨i + 1, S4, O4, lz, rfl, congrArg (Value.int .i64) (by have := HI.out; have := HN.out; simp only [wrap64]; omega), ⟨by omega, rfl⟩, HH, HLZ, HB⟩
          | some y2 =>
            have hb2 := HY.out
            rw [hb1] at hb2
            obtain rfl : b = true := hb2.1
            obtain rfl : y = y2 := hb2.2
            obtain ⟨z1, z2, z3⟩ := beh_some HINV.out hb1
            obtain ⟨x, hx⟩ := find_mem z1
            obtain ⟨e1, e2⟩ := find_some hx
            have hid := HINV.out.idr x e1
            have hsl := HINV.out.sl x e1
            have hbd := HINV.out.bd
            rw [e2] at hid
            have hnk := HNK.out
            have HID : Aside0 (I64 y) := ⟨⟨by omega, by omega⟩⟩
            have HMN := Aside0.mk (fun (W : World) (hm : MapG W mp (metP S4 a) (fP (PL S4 a))) => map_next HINV.out HNK.out hb1 hx hm)
            obtain ⟨s, hs⟩ : ∃ s, x.slot = s := ⟨_, rfl⟩
            have HPL : Aside0 (placeP (some x) = (s / 16, s % 16)) := ⟨by rw [← hs]; rfl⟩
            rw [hs] at HMN hsl
            obtain ⟨p, hp⟩ : ∃ p, s / 16 = p := ⟨_, rfl⟩
            obtain ⟨t, ht⟩ : ∃ t, s % 16 = t := ⟨_, rfl⟩
            rw [hp, ht] at HPL
            have hspt : s = p * 16 + t := by omega
            have t0 : 0 ≤ t := by omega
            have t1 : t ≤ 15 := by omega
            have p0 : 0 ≤ p := by omega
            have p1 : p ≤ 4000000000000 := by omega
            rw [hspt] at HMN
            have w1 : IntKind.i64.wrap (p * 16) = p * 16 := by rw [IntKind.wrap_i64]; omega
            have w2 : IntKind.i64.wrap (p * 16 + t) = p * 16 + t := by rw [IntKind.wrap_i64]; omega
            have w3 : wrap64 (p * 16) = p * 16 := by simp only [wrap64]; omega
            have w4 : wrap64 (p * 16 + t) = p * 16 + t := by simp only [wrap64]; omega
            have q3 : decide (t < 0) = false := decide_eq_false (by omega)
            have q4 : decide (t > 15) = false := decide_eq_false (by omega)
            have hml := met_le S4 y
            have hcn := HINV.out.cnt
            have q5 : ¬ (n < metP S4 y) := by omega
            have HX := Aside0.mk hx
            have HM := Aside0.mk z3
            have HML := Aside0.mk hml
            clear hb1 hb2 z1 z2 z3 hx e1 e2 hid hsl hbd hnk hs hp ht hspt hml hcn
            go_wp2_with (first
              | (go_at_call 17; (with_reducible refine (HH.out.place HNK.out y HID.out).mono ?_); rintro e w7 ⟨he, hb7⟩; rw [HX.out, HPL.out] at he; subst he; obtain ⟨w8, hrun, hm8, hg8, hk7, hk8, hlen8⟩ := HMN.out w7 (HMG.out.blk (hb7.block mp HMG.out.lt)); have n0_ := Aside0.mk ((HH.out.below hb7).grown hg8 HMO.out.1); have n1_ := Aside0.mk ((HB.out.trans (hb7.mono HB.out.size)).trans ⟨hg8.os, hg8.tape, hg8.output, hg8.size, fun k hk => hg8.block k (Nat.lt_of_lt_of_le hk (Nat.le_trans HB.out.size hb7.size)) (fun e => by injection e with e; have := HMO.out.2; omega)⟩); have n2_ := Aside0.mk hm8; clear HH HB hb7 HMG hm8 hg8; have HH := n0_; have HB := n1_; have HMG := n2_; clear n0_ n1_ n2_)
              | (go_at_call 11; (with_reducible refine (HH.out.behind HNK.out y).mono ?_); rintro e w9 ⟨he, hb9⟩; rw [behV_eq] at he; subst he; have n0_ := Aside0.mk (HH.out.below hb9); have n1_ := Aside0.mk (HB.out.trans (hb9.mono HB.out.size)); have n2_ := Aside0.mk (HMG.out.blk (hb9.block mp HMG.out.lt)); clear HH HB hb9 HMG; have HH := n0_; have HB := n1_; have HMG := n2_; clear n0_ n1_ n2_))
            go_roundg (S4.ents.length - metP S4 y)
            case measure => have := HA.out; have := HM.out; have := HML.out; omega
            case rel => exact ⟨y, _, _, rfl, rfl, ⟨⟨rfl, rfl⟩⟩, ⟨rfl⟩, HH, HMG, HB⟩
      · go_upto_region 11 with (fail)
        go_region_law (first
          | (go_simp; go_at_call 15; refine (copy_calls A1 _ c1 _ _ rfl HL1.out (Nat.le_trans HQ1.out.2.2 (by decide)) (HK1.out _ ?cb)).mono ?_; (case cb => (repeat (first | exact hB2.out | apply below_alloc | apply pw_below_drewN | apply below_drew1))); rintro e w3 ⟨v, rfl, hR, hb3⟩; have hb4 : Below W2.heap.size W2 w3 := un_drew hb3; have HR := Aside0.mk (new_ok hR (fun k ho => show k < W2.heap.size from (hh2.out.own k ho).2)); obtain ⟨A3, c3, ev⟩ := Kd.R_slice hR; subst ev; have HH := Aside0.mk (hh2.out.below hb4); have HB := Aside0.mk (hB2.out.trans (hb4.mono hB2.out.size)); have hb5 := (hb4.block g (blk_lt HBX.out)).trans HBX.out; have y1a : w3.cell? ⟨g, 1, none⟩ = some (.int .i64 z.f1) := (blk_cell hb5 1).trans rfl; have y2a : w3.cell? ⟨g, 2, none⟩ = some (.slice A1 z.f2.length c1) := (blk_cell hb5 2).trans rfl; clear hR hb3 hb4 hb5)
          | (go_simp; go_at_call 16; refine (H8.backE (HH.out.below ?cb) (by have := HNI.out; omega) z.f1 HQ1.out.2.1 (Kd.R_below HR.out ?cc) (Nat.le_trans HQ1.out.2.2 (by decide))).mono ?_; (case cb => (repeat (first | exact Below.refl _ _ | apply below_alloc | apply pw_below_drewN | apply below_drew1))); (case cc => (repeat (first | exact Below.refl _ _ | apply below_alloc | apply pw_below_drewN | apply below_drew1))); rintro e W4 ⟨rfl, S4, O4, hn, hl4, hfr⟩; have HE := Aside0.mk (hn.mono (M := ((i + 1 : Nat) : Int)) (by omega)); have HBE : Aside0 (Below w.heap.size w W4) := ⟨Below.trans (by (repeat (first | exact HB.out | apply below_alloc | apply pw_below_drewN | apply below_drew1))) hfr.low⟩; obtain ⟨lz, hlz⟩ : ∃ lz, lv = lz := ⟨_, rfl⟩; have HLZ : Aside0 (S4.last = lz) := ⟨hl4.trans (HLV.out.trans hlz)⟩; clear hn hl4 hfr))
        all_goals
          try rw [hlz]
          clear hlz
          have hmm := @run_makeMap Try.prog
          go_upto_region 21 with (fail)
          have hm0 := MapG.made W4
          have HMG : Aside0 (MapG (W4.alloc (.map #[] 0)) W4.heap.size 0 (fun _ => none)) := ⟨hm0⟩
          have hbl := below_alloc (Below.refl W4.heap.size W4) (.map #[] 0)
          have HH := Aside0.mk (HE.out.below hbl)
          have HB := Aside0.mk (HBE.out.trans (hbl.mono HBE.out.size))
          obtain ⟨mp, hmp⟩ : ∃ mp, W4.heap.size = mp := ⟨_, rfl⟩
          rw [hmp] at HMG
          rw [hmp]
          have HMO : Aside0 (¬ O4 mp ∧ w.heap.size ≤ mp) := ⟨⟨fun ho => by have := (HE.out.own mp ho).2; omega, by have := HBE.out.size; omega⟩⟩
          generalize W4.alloc (.map #[] 0) = W5 at HMG HH HB ⊢
          clear HE HBE hm0 hbl hmp hmm
          have HINV := Aside0.mk HH.out.inv
          have HNK : Aside0 (((i + 1 : Nat) : Int) ≤ 4000000000000) := ⟨by have := HNI.out; omega⟩
          go_wp2_with (first | (go_at_call 11; (with_reducible refine (HH.out.behind HNK.out 0).mono ?_); rintro e w6 ⟨he, hb6⟩; rw [behV_eq] at he; subst he; have n0_ := Aside0.mk (HH.out.below hb6); have n1_ := Aside0.mk (HB.out.trans (hb6.mono HB.out.size)); have n2_ := Aside0.mk (HMG.out.blk (hb6.block mp HMG.out.lt)); clear HH HB hb6 HMG; have HH := n0_; have HB := n1_; have HMG := n2_; clear n0_ n1_ n2_))
          go_loopg [9, 10] S4.ents.length (fun kq v9 v10 W => ∃ (a y : Int) (b : Bool), v9 = .int .i64 y ∧ v10 = .bool b ∧ Aside0 (b = (behP S4 a).isSome ∧ y = (behP S4 a).getD 0) ∧ Aside0 (kq = S4.ents.length - metP S4 a) ∧ Aside0 (H8 w.heap.size W hb S4 ((i + 1 : Nat) : Int) O4) ∧ Aside0 (MapG W mp (metP S4 a) (fP (PL S4 a))) ∧ Aside0 (Below w.heap.size w W))
          case atStart => exact ⟨0, _, _, rfl, rfl, ⟨⟨rfl, rfl⟩⟩, ⟨by rw [met_zero HINV.out]; rfl⟩, HH, ⟨by rw [met_zero HINV.out, pl_zero HINV.out, fP_nil]; exact HMG.out⟩, HB⟩
          case round =>
            clear HH HB HMG
            obtain ⟨a, y, b, rfl, rfl, HY, HA, HH, HMG, HB⟩ := hrel
            cases hb1 : behP S4 a with
            | none =>
              have hb2 := HY.out.1
              rw [hb1] at hb2
              obtain rfl : b = false := hb2
              clear hb1
              go_wp2
              go_roundg (n - (i + 1))
              case measure => have := HI.out; omega
              case rel => exact ⟨i + 1, S4, O4, lz, rfl, congrArg (Value.int .i64) (by have := HI.out; have := HN.out; simp only [wrap64]; omega), ⟨by omega, rfl⟩, HH, HLZ, HB⟩
            | some y2 =>
              have hb2 := HY.out
              rw [hb1] at hb2
              obtain rfl : b = true := hb2.1
              obtain rfl : y = y2 := hb2.2
              obtain ⟨z1, z2, z3⟩ := beh_some HINV.out hb1
              obtain ⟨x, hx⟩ := find_mem z1
              obtain ⟨e1, e2⟩ := find_some hx
              have hid := HINV.out.idr x e1
              have hsl := HINV.out.sl x e1
              have hbd := HINV.out.bd
              rw [e2] at hid
              have hnk := HNK.out
              have HID : Aside0 (I64 y) := ⟨⟨by omega, by omega⟩⟩
              have HMN := Aside0.mk (fun (W : World) (hm : MapG W mp (metP S4 a) (fP (PL S4 a))) => map_next HINV.out HNK.out hb1 hx hm)
              obtain ⟨s, hs⟩ : ∃ s, x.slot = s := ⟨_, rfl⟩
              have HPL : Aside0 (placeP (some x) = (s / 16, s % 16)) := ⟨by rw [← hs]; rfl⟩
              rw [hs] at HMN hsl
              obtain ⟨p, hp⟩ : ∃ p, s / 16 = p := ⟨_, rfl⟩
              obtain ⟨t, ht⟩ : ∃ t, s % 16 = t := ⟨_, rfl⟩
              rw [hp, ht] at HPL
              have hspt : s = p * 16 + t := by omega
              have t0 : 0 ≤ t := by omega
              have t1 : t ≤ 15 := by omega
              have p0 : 0 ≤ p := by omega
              have p1 : p ≤ 4000000000000 := by omega
              rw [hspt] at HMN
              have w1 : IntKind.i64.wrap (p * 16) = p * 16 := by rw [IntKind.wrap_i64]; omega
              have w2 : IntKind.i64.wrap (p * 16 + t) = p * 16 + t := by rw [IntKind.wrap_i64]; omega
              have w3 : wrap64 (p * 16) = p * 16 := by simp only [wrap64]; omega
              have w4 : wrap64 (p * 16 + t) = p * 16 + t := by simp only [wrap64]; omega
              have q3 : decide (t < 0) = false := decide_eq_false (by omega)
              have q4 : decide (t > 15) = false := decide_eq_false (by omega)
              have hml := met_le S4 y
              have hcn := HINV.out.cnt
              have q5 : ¬ (n < metP S4 y) := by omega
              have HX := Aside0.mk hx
              have HM := Aside0.mk z3
              have HML := Aside0.mk hml
              clear hb1 hb2 z1 z2 z3 hx e1 e2 hid hsl hbd hnk hs hp ht hspt hml hcn
              go_wp2_with (first
                | (go_at_call 17; (with_reducible refine (HH.out.place HNK.out y HID.out).mono ?_); rintro e w7 ⟨he, hb7⟩; rw [HX.out, HPL.out] at he; subst he; obtain ⟨w8, hrun, hm8, hg8, hk7, hk8, hlen8⟩ := HMN.out w7 (HMG.out.blk (hb7.block mp HMG.out.lt)); have n0_ := Aside0.mk ((HH.out.below hb7).grown hg8 HMO.out.1); have n1_ := Aside0.mk ((HB.out.trans (hb7.mono HB.out.size)).trans ⟨hg8.os, hg8.tape, hg8.output, hg8.size, fun k hk => hg8.block k (Nat.lt_of_lt_of_le hk (Nat.le_trans HB.out.size hb7.size)) (fun e => by injection e with e; have := HMO.out.2; omega)⟩); have n2_ := Aside0.mk hm8; clear HH HB hb7 HMG hm8 hg8; have HH := n0_; have HB := n1_; have HMG := n2_; clear n0_ n1_ n2_)
                | (go_at_call 11; (with_reducible refine (HH.out.behind HNK.out y).mono ?_); rintro e w9 ⟨he, hb9⟩; rw [behV_eq] at he; subst he; have n0_ := Aside0.mk (HH.out.below hb9); have n1_ := Aside0.mk (HB.out.trans (hb9.mono HB.out.size)); have n2_ := Aside0.mk (HMG.out.blk (hb9.block mp HMG.out.lt)); clear HH HB hb9 HMG; have HH := n0_; have HB := n1_; have HMG := n2_; clear n0_ n1_ n2_))
              go_roundg (S4.ents.length - metP S4 y)
              case measure => have := HA.out; have := HM.out; have := HML.out; omega
              case rel => exact ⟨y, _, _, rfl, rfl, ⟨⟨rfl, rfl⟩⟩, ⟨rfl⟩, HH, HMG, HB⟩
    · have q1 : decide ((i : Int) < (n : Int)) = false := decide_eq_false (by omega)
      go_wp2
      go_ret
      exact ⟨rfl, HB.out⟩
end Go.Proofs.Ytgbjilcfgpbcgaa
