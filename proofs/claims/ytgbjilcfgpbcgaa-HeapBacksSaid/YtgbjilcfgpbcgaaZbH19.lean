import Derived.Test.YtgbjilcfgpbcgaaZbH18
/- Layer 8: HeapBacks, walked. -/
namespace Go.Proofs.Ytgbjilcfgpbcgaa
open Go.RowKit Go.Proofs.YtgbjilcfgpbcgaaW.PrintWords Go.Proofs.YtgbjilcfgpbcgaaW.PrintLast Go.Proofs.YtgbjilcfgpbcgaaW.PrintMore
set_option linter.unusedSimpArgs false
set_option linter.unusedVariables false
theorem new_ok {w : World} {e b : Nat} {k : IntKind} {ok O : Nat → Prop} {v : Value} {xs : List Int} (h : (Kd.int k).R e w b ok v xs) (hO : ∀ k, O k → k < b) : (Kd.int k).R e w b (fun k => ¬ O k) v xs :=
  Kd.R_mono (Kd.R_bound h) fun k hk ho => by have := hO k ho; have := hk.2.1; omega
theorem Nx.row {B : Nat} {w w' : World} {hb : Nat} {O O' : Nat → Prop} {S' : St} {N' : Int} (h : Nx B w hb O S' N' w' O') {b : Nat} {v : Value} {xs : List Int} (hr : kb.R 5 w b (fun k => ¬ O k) v xs) : kb.R 5 w' b (fun k => ¬ O' k) v xs :=
  Kd.R_mono (ok := fun k => ¬ O k ∧ k < w.heap.size) (Kd.R_step (Kd.R_mono (Kd.R_bound hr) fun k hk => ⟨hk.1, hk.2.2.1⟩) fun k hk hl => h.fr.kept.2 k hl hk.1) fun k hk ho => hk.1 (h.old k hk.2 ho)
theorem H8.get_some {B : Nat} {w : World} {hb : Nat} {S : St} {N : Int} {O : Nat → Prop} (h : H8 B w hb S N O) (id : Int) (hid : I64 id) {x : Ent} (hf : findP S id = some x) :
    Calls Try.prog 12 #[.pointer (some ⟨hb, 0, none⟩), .int .i64 id] w fun e w' => ∃ A c, e = .returned (.tuple #[.slice A x.row.length c, .bool true]) ∧ kb.R 5 w' w.heap.size (fun k => ¬ O k) (.slice A x.row.length c) x.row ∧ Below w.heap.size w w' :=
  (h.get id hid).mono fun e w' ⟨v, he, hR, hB⟩ => by
    rw [hf] at he hR
    have hR2 : kb.R 5 w' w.heap.size (fun _ => True) v x.row := hR
    obtain ⟨A, c, ev⟩ := Kd.R_slice hR2
    subst ev
    exact ⟨A, c, he, new_ok hR2 (fun k ho => (h.own k ho).2), hB⟩
theorem H8.drop_some {B : Nat} {w : World} {hb : Nat} {S : St} {N : Int} {O : Nat → Prop} (h : H8 B w hb S N O) (hN : N ≤ 4000000000000) (id : Int) (hid : I64 id) {x : Ent} (hf : findP S id = some x) :
    Calls Try.prog 10 #[.pointer (some ⟨hb, 0, none⟩), .int .i64 id] w fun e w' => e = .returned (.bool true) ∧ Nx B w hb O (dropP S id) N w' (grow O w w') :=
  (h.drop hN id hid).mono fun e w' ⟨he, hn⟩ => by rw [hf] at he; exact ⟨he, hn⟩
theorem H8.back_some {B : Nat} {w : World} {hb : Nat} {S : St} {N : Int} {O : Nat → Prop} {id : Int} (h : H8 B w hb (dropP S id) N O) (hI : Inv N S) (hN : N ≤ 4000000000000) (hid : I64 id) {x : Ent} (hf : findP S id = some x) {bb : Nat} {A : Option Addr} {n c : Nat} {xs : List Int} (hr : kb.R 5 w bb (fun k => ¬ O k) (.slice A n c) xs) (hn : n ≤ 140737488355328) :
    Calls Try.prog 16 #[.pointer (some ⟨hb, 0, none⟩), .int .i64 id, .slice A n c] w fun e w' => e = .returned (.bool true) ∧ Nx B w hb O (layP (dropP S id) id xs) (N + 1) w' (grow O w w') :=
  (h.back hN id hid hr hn).mono fun e w' ⟨he, hn⟩ => by rw [back_ok hI hf, if_pos rfl] at hn; rw [back_ok hI hf] at he; exact ⟨he, hn⟩
theorem len_back {N : Int} {S : St} (hI : Inv N S) {id : Int} {x : Ent} (hf : findP S id = some x) (row : List Int) : (layP (dropP S id) id row).ents.length = S.ents.length := by
  rw [lay_len, drop_len hI hf]
theorem last_back (S : St) (id : Int) (row : List Int) : (layP (dropP S id) id row).last = S.last := by
  rw [lay_last, drop_last]
/-- What is known of a call that came in. -/
abbrev Q38 (x : S38) : Prop := I64 x.f0 ∧ I64 x.f1 ∧ x.f2.length ≤ 140737488351232
set_option maxHeartbeats 8000000 in
set_option maxRecDepth 100000 in
theorem backs_calls (w : World) (A : Option Addr) (l : List S38) (n c : Nat) (hC : Kd.C k38 w A n l) (hln : l.length = n) (hc : n ≤ c) (hn : n ≤ 3600000000000) (hq : ∀ x ∈ l, Q38 x) (id : Int) (hid : I64 id) :
    Calls Try.prog 6 #[.slice A n c, .int .i64 id] w fun e w' => e = .returned (.bool true) ∧ Below w.heap.size w w' := by
  have HC := Aside0.mk hC
  have HLN := Aside0.mk hln
  have HN := Aside0.mk hn
  have HQ := Aside0.mk hq
  have HID := Aside0.mk hid
  clear hC hln hn hq hid
  go_enter Try.func6, Try.ntmps6
  go_wp2_with (first
    | (go_at_call 7; (with_reducible refine (speaks_calls _).mono ?_); rintro e w1 ⟨rfl, hb⟩; have HB := Aside0.mk hb; clear hb)
    | (go_at_call 8; (with_reducible refine (H8.new _ w.heap.size HB.out.size).mono ?_); rintro e w2 ⟨hb, rfl, h1, hb2⟩; have HH := Aside0.mk h1; have n0_ := Aside0.mk (HB.out.trans (hb2.mono HB.out.size)); clear HB; have HB := n0_; clear n0_ h1 hb2))
  go_loopg [21] n (fun kq v21 W => ∃ (i : Nat) (S : St) (O : Nat → Prop), v21 = .int .i64 i ∧ Aside0 (i ≤ n ∧ kq = n - i) ∧ Aside0 (H8 w.heap.size W hb S i O) ∧ Aside0 (Below w.heap.size w W))
  case atStart => exact ⟨0, S0, _, rfl, ⟨by omega, by omega⟩, HH, HB⟩
  case round =>
    clear HH HB
    obtain ⟨i, S, O, rfl, HI, HH, HB⟩ := hrel
    by_cases hlt : i < n
    · obtain ⟨ad, A1, c1, e, x0, x1, x2, hl1, hk1⟩ := at38B HC.out HB.out i hlt
      cases e
      have q1 : decide ((i : Int) < (n : Int)) = true := decide_eq_true (by omega)
      have j0 : (0 : Int) ≤ (i : Int) := by omega
      have j1 : (i : Int) < (n : Int) := by omega
      have j2 : ((i : Int)).toNat = i := by omega
      have HQ1 := Aside0.mk (HQ.out _ (rd38_mem (by rw [HLN.out]; exact hlt)))
      obtain ⟨z, hz⟩ : ∃ z, rd38 l i = z := ⟨_, rfl⟩
      rw [hz] at x0 x1 x2 HQ1
      rw [hz] at hl1 hk1
      have HK1 := Aside0.mk hk1
      have HL1 := Aside0.mk hl1
      clear hz hk1 hl1
      go_upto_region 9 with (fail)
      clear x0 x1 x2
      have hbx := heap_alloc_new wr (.cells #[.int .i64 z.f0, .int .i64 z.f1, .slice A1 z.f2.length c1] 38)
      have hb2 := below_alloc (Below.refl wr.heap.size wr) (.cells #[.int .i64 z.f0, .int .i64 z.f1, .slice A1 z.f2.length c1] 38)
      have hh2 := Aside0.mk (HH.out.below hb2)
      have hB2 := Aside0.mk (HB.out.trans (hb2.mono HB.out.size))
      obtain ⟨g, hg⟩ : ∃ g, wr.heap.size = g := ⟨_, rfl⟩
      rw [hg] at hbx
      rw [hg]
      have hgO : Aside0 (¬ O g) := ⟨fun ho => by have := (HH.out.own g ho).2; omega⟩
      generalize wr.alloc (.cells #[.int .i64 z.f0, .int .i64 z.f1, .slice A1 z.f2.length c1] 38) = W2 at hbx hh2 hB2 ⊢
      clear HH HB hb2 hg
      have y0 : W2.cell? ⟨g, 0, none⟩ = some (.int .i64 z.f0) := (blk_cell hbx 0).trans rfl
      have y1 : W2.cell? ⟨g, 1, none⟩ = some (.int .i64 z.f1) := (blk_cell hbx 1).trans rfl
      have y2 : W2.cell? ⟨g, 2, none⟩ = some (.slice A1 z.f2.length c1) := (blk_cell hbx 2).trans rfl
      have HNI : Aside0 ((i : Int) + 1 ≤ 4000000000000) := ⟨by have := HN.out; omega⟩
      go_wp2_with (first
        | (go_at_call 15; (with_reducible refine (copy_calls A1 _ c1 _ W2 rfl HL1.out (Nat.le_trans HQ1.out.2.2 (by decide)) (HK1.out W2 hB2.out)).mono ?_); rintro e w3 ⟨v, rfl, hR, hb3⟩; have HR := Aside0.mk (new_ok hR (fun k ho => (hh2.out.own k ho).2)); obtain ⟨A3, c3, ev⟩ := Kd.R_slice hR; subst ev; have HH := Aside0.mk (hh2.out.below hb3); have HB := Aside0.mk (hB2.out.trans (hb3.mono hB2.out.size)); clear hR hb3 hh2 hB2)
        | (go_at_call 9; (with_reducible refine (HH.out.add HNI.out HR.out (Nat.le_trans HQ1.out.2.2 (by decide))).mono ?_); rintro e w4 ⟨rfl, hn⟩; have HE := Aside0.mk (hn.heap.mono (M := ((i + 1 : Nat) : Int)) (by omega)); have HBE := Aside0.mk (HB.out.trans hn.fr.low); clear hn HH HB HR)
        | (go_at_call 10; (with_reducible refine (hh2.out.drop (by have := HNI.out; omega) z.f1 HQ1.out.2.1).mono ?_); rintro e w4 ⟨rfl, hn⟩; have HE := Aside0.mk (hn.heap.mono (M := ((i + 1 : Nat) : Int)) (by omega)); have HBE := Aside0.mk (hB2.out.trans hn.fr.low); clear hn hh2 hB2))
      all_goals
        go_roundg (n - (i + 1))
        case measure => have := HI.out; omega
        case rel => exact ⟨i + 1, _, _, congrArg (Value.int .i64) (by have := HI.out; have := HN.out; simp only [wrap64]; omega), ⟨by omega, rfl⟩, HE, HBE⟩
    · have q1 : decide ((i : Int) < (n : Int)) = false := decide_eq_false (by omega)
      have HNI : Aside0 ((i : Int) ≤ 4000000000000) := ⟨by have := HN.out; have := HI.out; omega⟩
      cases hf : findP S id with
      | none =>
        have HF := Aside0.mk hf
        clear hf
        go_wp2_with (first
          | (go_at_call 14; (with_reducible refine (HH.out.len).mono ?_); rintro e w2 ⟨rfl, rfl⟩)
          | (go_at_call 25; (with_reducible refine (HH.out.last).mono ?_); rintro e w2 ⟨rfl, rfl⟩)
          | (go_at_call 12; (with_reducible refine (HH.out.get id HID.out).mono ?_); rintro e w3 ⟨v, rfl, hR, hb3⟩; rw [HF.out] at hR ⊢; obtain ⟨A3, c3, ev⟩ := Kd.R_slice hR; rw [show ((Option.none : Option Ent).elim [] Ent.row).length = 0 from rfl] at ev; subst ev; have H3 := Aside0.mk (HH.out.below hb3); have HB3 := Aside0.mk (HB.out.trans (hb3.mono HB.out.size)); clear hR hb3 HH HB)
          | (go_at_call 10; (with_reducible refine (H3.out.drop HNI.out id HID.out).mono ?_); rintro e w4 ⟨rfl, hn⟩; rw [HF.out] at *; have HBE := Aside0.mk (HB3.out.trans hn.fr.low); clear hn H3 HB3))
        go_ret
        exact ⟨rfl, HBE.out⟩
      | some x =>
        have HF := Aside0.mk hf
        have HINV := Aside0.mk HH.out.inv
        have HXL := Aside0.mk (HH.out.rows x (find_some hf).1)
        have HFB := Aside0.mk (find_lay x.row (drop_gone HH.out.inv hf))
        clear hf
        go_wp2_with (first
          | (go_at_call 14; (with_reducible refine (HH.out.len).mono ?_); rintro e w2 ⟨rfl, rfl⟩)
          | (go_at_call 25; (with_reducible refine (HH.out.last).mono ?_); rintro e w2 ⟨rfl, rfl⟩)
          | (go_at_call 12; (with_reducible refine (HH.out.get_some id HID.out HF.out).mono ?_); rintro e w3 ⟨A3, c3, rfl, hR, hb3⟩; have HR3 := Aside0.mk hR; have H3 := Aside0.mk (HH.out.below hb3); have HB3 := Aside0.mk (HB.out.trans (hb3.mono HB.out.size)); clear hR hb3 HH HB)
          | (go_at_call 10; (with_reducible refine (H3.out.drop_some HNI.out id HID.out HF.out).mono ?_); rintro e w4 ⟨rfl, hn⟩; have H4 := Aside0.mk hn.heap; have HR4 := Aside0.mk (hn.row HR3.out); have HB4 := Aside0.mk (HB3.out.trans hn.fr.low); clear hn H3 HB3 HR3)
          | (go_at_call 15; (with_reducible refine (copy_calls A3 _ c3 _ _ rfl (Kd.R_reads' HR4.out).2.1 HXL.out (Kd.R_reads' HR4.out).2.2).mono ?_); rintro e w5 ⟨v, rfl, hR, hb5⟩; have HR6 := Aside0.mk (new_ok hR (fun k ho => (H4.out.own k ho).2)); obtain ⟨A5, c5, ev⟩ := Kd.R_slice hR; subst ev; have H5 := Aside0.mk (H4.out.below hb5); have HR5 := Aside0.mk (Kd.R_below HR4.out hb5); have HB5 := Aside0.mk (HB4.out.trans (hb5.mono HB4.out.size)); clear hR hb5 H4 HB4 HR4)
          | (go_at_call 16; (with_reducible refine (H5.out.back_some HINV.out HNI.out HID.out HF.out HR6.out HXL.out).mono ?_); rintro e w6 ⟨rfl, hn⟩; have H6 := Aside0.mk hn.heap; have HR7 := Aside0.mk (hn.row HR5.out); have HB6 := Aside0.mk (HB5.out.trans hn.fr.low); clear hn H5 HB5 HR5 HR6)
          | (go_at_call 12; (with_reducible refine (H6.out.get_some id HID.out HFB.out).mono ?_); rintro e w7 ⟨A7, c7, rfl, hR, hb7⟩; have hR8 : kb.R 5 w7 _ _ (.slice A7 x.row.length c7) x.row := hR; have H7 := Aside0.mk (H6.out.below hb7); have hst1 : Sem.run Try.prog (convert 27 9 (.slice A3 x.row.length c3)) w7 = .ok (.string (strOfNums x.row)) w7 := Kd.C_string (P := Try.prog) (xs := x.row) Try.underlying27 Try.underlying5 Try.underlying9 (Kd.R_reads' (Kd.R_below HR7.out hb7)).2.2; have hst2 : Sem.run Try.prog (convert 27 9 (.slice A7 x.row.length c7)) w7 = .ok (.string (strOfNums x.row)) w7 := Kd.C_string (P := Try.prog) (xs := x.row) Try.underlying27 Try.underlying5 Try.underlying9 (Kd.R_reads' hR8).2.2; have HB7 := Aside0.mk (HB6.out.trans (hb7.mono HB6.out.size)); clear hR hR8 hb7 H6 HB6 HR7)
          | (go_at_call 14; (with_reducible refine (H7.out.len).mono ?_); rintro e w8 ⟨he, rfl⟩; rw [len_back HINV.out HF.out] at he; subst he)
          | (go_at_call 25; (with_reducible refine (H7.out.last).mono ?_); rintro e w8 ⟨he, rfl⟩; rw [last_back] at he; subst he))
        go_ret
        exact ⟨rfl, HB7.out⟩
end Go.Proofs.Ytgbjilcfgpbcgaa
