/- Package keys: Encode: the walk. -/
import Derived.Test.YthoemenchimggaaDoorK10
import Derived.Test.YthoemenchimggaaDoorAx
namespace Go.Proofs.YthoemenchimggaaDoor
open Go.RowKit Go.Proofs.YthoemenchimggaaDoorW.PrintWords Go.Proofs.YthoemenchimggaaDoorW.PrintLast Go.Proofs.YthoemenchimggaaDoorW.PrintMore A Fl
set_option linter.unusedVariables false
set_option linter.unusedSimpArgs false
/-- The kind's byte. -/
def kindB (n : Int) : Int := wrap64 (n + 1) % 256
/-- A Text's bytes in a key. -/
def textB (s : ByteArray) : List Int := numsB (escB (Lib.bytesOf (bytesOf s))) ++ [0, 1]
theorem bytes_range (s : ByteArray) : ∀ x ∈ bytesOf s, 0 ≤ x ∧ x < 256 := by
  intro x hx
  simp only [bytesOf, List.mem_map] at hx
  obtain ⟨b, _, rfl⟩ := hx
  have := b.toNat_lt
  omega
def intU (n : Int) : Int := bits .xor .u64 (IntKind.u64.wrap n) 9223372036854775808
/-- What a value adds behind its kind. -/
def tailV (x : S35) : List Int :=
  if x.f0 = 1 then [x.f1 % 256] else if x.f0 = 2 then eightB (intU x.f1) else if x.f0 = 3 then eightB (ordU x.f1) else if x.f0 = 4 then textB x.f2 else []
theorem tailV_1 {x : S35} (h : x.f0 = 1) : tailV x = [x.f1 % 256] := by simp [tailV, h]
theorem tailV_2 {x : S35} (h : x.f0 = 2) : tailV x = eightB (intU x.f1) := by simp [tailV, h]
theorem tailV_3 {x : S35} (h : x.f0 = 3) : tailV x = eightB (ordU x.f1) := by simp [tailV, h]
theorem tailV_4 {x : S35} (h : x.f0 = 4) : tailV x = textB x.f2 := by simp [tailV, h]
theorem tailV_0 {x : S35} (h1 : ¬ x.f0 = 1) (h2 : ¬ x.f0 = 2) (h3 : ¬ x.f0 = 3) (h4 : ¬ x.f0 = 4) : tailV x = [] := by simp [tailV, h1, h2, h3, h4]
theorem round1 (i : Nat) : (i : Int) + 1 = ((i + 1 : Nat) : Int) := by omega
def keyL : List S35 → List Int
  | [] => []
  | x :: l => kindB x.f0 :: (tailV x ++ keyL l)
theorem keyL_drop (xs : List S35) (i : Nat) (h : i < xs.length) : keyL (xs.drop i) = kindB (rd_T35 xs i).f0 :: (tailV (rd_T35 xs i) ++ keyL (xs.drop (i + 1))) := by
  rw [List.drop_eq_getElem_cons h, keyL]
  have e : rd_T35 xs (i : Int) = xs[i] := by
    unfold rd_T35
    rw [Int.toNat_natCast, List.getD_eq_getElem?_getD, List.getElem?_eq_getElem h]; rfl
  rw [e]
theorem size_alloc1 (w : World) (o : Obj) : (w.alloc o).heap.size = w.heap.size + 1 := by simp
/-- A value's own cells, behind an append to a row that is elder. -/
theorem kept_cell {wr w1 : World} {base : Nat} {Av : Option Addr} {n cv : Nat} {ys : List Int} {x : S35} (hO : kb.R 5 wr base (fun _ => True) (.slice Av n cv) ys)
    (hg : (wr.alloc (.cells #[.int .i64 x.f0, .int .i64 x.f1, .string x.f2] 35)).grownBy w1 (Value.slice Av n cv).ownBlock) :
    w1.cell? ⟨wr.heap.size, 0, none⟩ = some (.int .i64 x.f0) ∧ w1.cell? ⟨wr.heap.size, 1, none⟩ = some (.int .i64 x.f1) ∧ w1.cell? ⟨wr.heap.size, 2, none⟩ = some (.string x.f2) := by
  have hb := hg.block wr.heap.size (by simp) (fun h => by have := Kd.R_lt hO _ h.symm; omega)
  refine ⟨(World.cell?_of_block hb).trans ?_, (World.cell?_of_block hb).trans ?_, (World.cell?_of_block hb).trans ?_⟩ <;> exact World.cell?_alloc_new _ _ _ _
/-- Rows of one byte and of two, new. -/
theorem C_one (w : World) (x : Int) : kb.C (w.alloc (.cells #[.int .u8 x] 5)) (some ⟨w.heap.size, 0, none⟩) 1 [x] := by
  refine Kd.C_of_reads (enc := Value.int .u8) (d := (0 : Int)) (h1 := fun _ => rfl) ⟨rfl, by omega, fun _ => ⟨_, rfl, fun j hj => ?_⟩⟩
  obtain rfl : j = 0 := by omega
  rw [add_plain]; exact World.cell?_alloc_new _ _ _ _
theorem C_two (w : World) (x y : Int) : kb.C (w.alloc (.cells #[.int .u8 x, .int .u8 y] 5)) (some ⟨w.heap.size, 0, none⟩) 2 [x, y] := by
  refine Kd.C_of_reads (enc := Value.int .u8) (d := (0 : Int)) (h1 := fun _ => rfl) ⟨rfl, by omega, fun _ => ⟨_, rfl, fun j hj => ?_⟩⟩
  rcases (by omega : j = 0 ∨ j = 1) with rfl | rfl <;> (rw [add_plain]; exact World.cell?_alloc_new _ _ _ _)
theorem text_size (s : ByteArray) : (textB s).length = (escB (Lib.bytesOf (bytesOf s))).length + 2 := by simp [textB, numsB]
theorem text_le (s : ByteArray) : s.size ≤ (escB (Lib.bytesOf (bytesOf s))).length := by
  have h : (Lib.bytesOf (bytesOf s)).length = s.size := by unfold Lib.bytesOf; rw [List.length_map, bytesOf_length]
  rw [escB_length, h]; omega
theorem text_call (w1 : World) (s : ByteArray) (hs : s.size ≤ 70000000000000) :
    Calls Tryd.prog 26 #[.slice (some ⟨w1.heap.size, 0, none⟩) s.size (grownCap w1 s.size 0 5), .slice (some ⟨(Lib.bytesWorld w1 5 s).heap.size, 0, none⟩) 1 1, .slice (some ⟨(Lib.bytesWorld w1 5 s).heap.size + 1, 0, none⟩) 2 2]
      (((Lib.bytesWorld w1 5 s).alloc (.cells #[.int .u8 0] 5)).alloc (.cells #[.int .u8 0, .int .u8 255] 5)) fun e w' =>
      ∃ A' c', e = .returned (.slice A' (escB (Lib.bytesOf (bytesOf s))).length c') ∧ kb.C w' A' (escB (Lib.bytesOf (bytesOf s))).length (numsB (escB (Lib.bytesOf (bytesOf s)))) ∧ Below w1.heap.size w1 w' := by
  have hc1 := Kd.C_of_reads (enc := Value.int .u8) (d := (0 : Int)) (h1 := fun _ => rfl) (bytes_reads w1 5 s (by omega))
  have hc : kb.C (Lib.bytesWorld w1 5 s) (some ⟨w1.heap.size, 0, none⟩) (bytesOf s).length (bytesOf s) := by rw [bytesOf_length]; exact hc1
  have hb : Below w1.heap.size w1 (Lib.bytesWorld w1 5 s) := bytes_below (Below.refl _ _) (Nat.le_refl _) 5 s
  have hb1 := below_alloc hb (.cells #[.int .u8 0] 5)
  have hb2 := below_alloc hb1 (.cells #[.int .u8 0, .int .u8 255] 5)
  have h1 := Kd.C_alloc (C_one (Lib.bytesWorld w1 5 s) 0) (.cells #[.int .u8 0, .int .u8 255] 5)
  have h2 := C_two ((Lib.bytesWorld w1 5 s).alloc (.cells #[.int .u8 0] 5)) 0 255
  rw [size_alloc1] at h2
  have R := replaceall_calls (some ⟨w1.heap.size, 0, none⟩) (some ⟨(Lib.bytesWorld w1 5 s).heap.size, 0, none⟩) (some ⟨(Lib.bytesWorld w1 5 s).heap.size + 1, 0, none⟩) (grownCap w1 s.size 0 5) 1 2 (bytesOf s) _ (by rw [bytesOf_length]; exact hs) (by rw [bytesOf_length]; exact grownCap_ge _ _ _ _) (bytes_range s)
    (Kd.C_alloc (Kd.C_alloc hc _) _) h1 h2
  rw [bytesOf_length] at R
  refine R.mono ?_
  rintro e w' ⟨A', c', rfl, hl, hC, hB⟩
  exact ⟨A', c', rfl, hC, hb2.trans (hB.mono hb2.size)⟩
set_option maxHeartbeats 4000000 in
theorem encode_calls (A : Option Addr) (c : Nat) (xs : List S35) (w : World) (h : Kd.C k35 w A xs.length xs) (hc : xs.length ≤ c) (hb : (keyL xs).length ≤ 70000000000000) :
    Calls Tryd.prog 12 #[.slice A xs.length c] w fun e w' => ∃ v, e = .returned v ∧ kb.R 5 w' w.heap.size (fun _ => True) v (keyL xs) ∧ Below w.heap.size w w' := by
  have H := Aside0.mk h
  have HL := Aside0.mk hb
  have HN : xs.length ≤ 9223372036854775807 := h.2.1
  clear h hb
  go_enter Tryd.func12, Tryd.ntmps12
  go_wp2_with fail
  go_loopg [3, 8] xs.length (fun gk v3 v8 wr => ∃ (i : Nat) (ys : List Int), i ≤ xs.length ∧ gk = xs.length - i ∧ v8 = .int .i64 (i : Int) ∧ Aside0 (ys ++ keyL (xs.drop i) = keyL xs) ∧ Aside0 (kb.R 5 wr w.heap.size (fun _ => True) v3 ys) ∧ Aside0 (Below w.heap.size w wr))
  case atStart => exact ⟨0, [], Nat.zero_le _, rfl, rfl, ⟨rfl⟩, ⟨Kd.R_nil _ _ _ _ _⟩, ⟨Below.refl _ _⟩⟩
  case round =>
    obtain ⟨i, ys, hi, rfl, rfl, HY, HO, HB⟩ := hrel
    obtain ⟨Av, cv, rfl⟩ := Kd.R_slice HO.out
    by_cases hlt : i < xs.length
    · have clt : decide (i < xs.length) = true := decide_eq_true hlt
      have p104 : 0 ≤ (i : Int) := by omega
      have q104 : (i : Int) < (xs.length : Int) := by omega
      obtain ⟨ad104, rfl, hx0, hx1, hx2⟩ := at_T35 H.out i p104 q104
      replace hx0 := (HB.out.cell (World.block_lt_of_cell? w _ hx0)).trans hx0
      replace hx1 := (HB.out.cell (World.block_lt_of_cell? w _ hx1)).trans hx1
      replace hx2 := (HB.out.cell (World.block_lt_of_cell? w _ hx2)).trans hx2
      replace p104 := eq_true p104
      replace q104 := eq_true q104
      have hk := keyL_drop xs i hlt
      obtain ⟨x, hxx⟩ : ∃ x, x = rd_T35 xs i := ⟨_, rfl⟩
      rw [← hxx] at hx0 hx1 hx2 hk
      simp only [Int.toNat_natCast] at hx0 hx1 hx2
      have HK := Aside0.mk hk
      clear hk hxx
      have HAL : Aside0 ((ys.length + 1) * 1 ≤ 140737488355328) := ⟨by
        have h1 := HL.out
        rw [← HY.out, List.length_append] at h1
        omega⟩
      obtain ⟨ys1, hys1⟩ : ∃ y, y = ys ++ [kindB x.f0] := ⟨_, rfl⟩
      have Ny1 := Aside0.mk hys1
      have HY1 : Aside0 (ys1 ++ (tailV x ++ keyL (xs.drop (i + 1))) = keyL xs) := ⟨by rw [← HY.out, HK.out, hys1]; simp⟩
      clear hys1
      go_wp2_with (first | ((with_reducible refine gate_builtin (b := .append) (xs := #[.tmp 12, .tmp 17]) rfl ?_); at_builtin; refine Kd.R_append kb (w0 := w) w.heap.size rfl (.tmp 12) (.tmp 17) 25 5 (.int .u8 0) 1 rfl Tryd.underlying25 info5' rfl (by decide) (by omega) (.slice Av ys.length cv) ys (kindB x.f0) [.int .u8 (wrap64 (x.f0 + 1) % 256)] (fun _ => True) (fun _ => False) rfl (congrArg (fun n => Value.slice (some ⟨n, 0, none⟩) 1 1) (size_alloc1 wr _).symm) ?aP (fun _ hk => hk.elim) ?aF ?aO ?aB ?aS ?aL ?_; (case aP => exact rfl); (case aF => exact fun _ _ => trivial); (case aB => exact (by repeat (first | (with_reducible first | exact HB.out | apply below_alloc | apply pw_below_drewN | apply below_drew1) | exact HB.out))); (case aO => exact (by (with_reducible repeat (first | apply Kd.R_alloc | apply Kd.R_drewN | apply Kd.R_drew)); exact HO.out)); (case aS => exact (below_size (by repeat (first | (with_reducible first | exact HB.out | apply below_alloc | apply pw_below_drewN | apply below_drew1) | exact HB.out)))); (case aL => exact HAL.out); intro v1 w1 ho hb hg hat; rw [← Ny1.out] at ho; obtain ⟨A1, c1, rfl⟩ := Kd.R_slice ho; have hcell := kept_cell HO.out hg; have HC := Aside0.mk hcell; have HO1 := Aside0.mk ho; have HB1 := Aside0.mk hb; have hc0 := HC.out.1; have hc1 := HC.out.2.1; have hc2 := HC.out.2.2; clear hcell ho hb hg hat; apply Aside0.out))
      refine ⟨?_⟩
      clear HY HO HK HAL Ny1 hx0 hx1 hx2 HB
      by_cases k1 : x.f0 = 1
      · have b1 : (x.f0 == 1) = true := by simp [k1]
        rw [tailV_1 k1] at HY1
        have HY2 : Aside0 ((ys1 ++ [x.f1 % 256]) ++ keyL (xs.drop (i + 1)) = keyL xs) := ⟨by rw [← HY1.out]; simp⟩
        have HAL : Aside0 ((ys1.length + 1) * 1 ≤ 140737488355328) := ⟨by
          have h1 := HL.out
          rw [← HY1.out, List.length_append] at h1
          omega⟩
        go_wp2_with (first | ((with_reducible refine gate_builtin (b := .append) (xs := #[.tmp 23, .tmp 27]) rfl ?_); at_builtin; refine Kd.R_append kb (w0 := w) w.heap.size rfl (.tmp 23) (.tmp 27) 25 5 (.int .u8 0) 1 rfl Tryd.underlying25 info5' rfl (by decide) (by omega) (.slice A1 ys1.length c1) ys1 (x.f1 % 256) [.int .u8 (x.f1 % 256)] (fun _ => True) (fun _ => False) rfl rfl ?aP (fun _ hk => hk.elim) ?aF ?aO ?aB ?aS ?aL ?_; (case aP => exact rfl); (case aF => exact fun _ _ => trivial); (case aB => exact HB1.out); (case aO => exact HO1.out); (case aS => exact (below_size HB1.out)); (case aL => exact HAL.out); intro v2 w2 ho hb hg hat; have HO2 := Aside0.mk ho; have HB2 := Aside0.mk hb; clear ho hb hg hat))
        go_roundg (xs.length - (i + 1))
        case measure => omega
        case rel => exact ⟨i + 1, _, by omega, rfl, by rw [← round1], HY2, HO2, HB2⟩
      · have b1 : (x.f0 == 1) = false := by simp [k1]
        by_cases k2 : x.f0 = 2
        · have b2 : (x.f0 == 2) = true := by simp [k2]
          go_wp2_with fail
          rw [tailV_2 k2] at HY1
          have HY2 : Aside0 ((ys1 ++ eightB (intU x.f1)) ++ keyL (xs.drop (i + 1)) = keyL xs) := ⟨by rw [← HY1.out]; simp⟩
          have hyl : ys1.length ≤ 140000000000000 := by
            have h1 := HL.out
            rw [← HY1.out, List.length_append] at h1
            omega
          refine (eight_calls w.heap.size A1 c1 ys1 (intU x.f1) w w1 hyl HO1.out HB1.out (below_size HB1.out)).mono ?_
          rintro e w2 ⟨v, rfl, hO, hB⟩
          have HO2 := Aside0.mk hO
          have HB2 := Aside0.mk hB
          clear hO hB
          go_wp2_with fail
          go_roundg (xs.length - (i + 1))
          case measure => omega
          case rel => exact ⟨i + 1, _, by omega, rfl, by rw [← round1], HY2, HO2, HB2⟩
        · have b2 : (x.f0 == 2) = false := by simp [k2]
          by_cases k3 : x.f0 = 3
          · have b3 : (x.f0 == 3) = true := by simp [k3]
            go_wp2_with fail
            refine (ordered_calls x.f1 w1).mono ?_
            rintro e w2 ⟨rfl, rfl⟩
            go_wp2_with fail
            rw [tailV_3 k3] at HY1
            have HY2 : Aside0 ((ys1 ++ eightB (ordU x.f1)) ++ keyL (xs.drop (i + 1)) = keyL xs) := ⟨by rw [← HY1.out]; simp⟩
            have hyl : ys1.length ≤ 140000000000000 := by
              have h1 := HL.out
              rw [← HY1.out, List.length_append] at h1
              omega
            refine (eight_calls w.heap.size A1 c1 ys1 (ordU x.f1) w w1 hyl HO1.out HB1.out (below_size HB1.out)).mono ?_
            rintro e w2 ⟨v, rfl, hO, hB⟩
            have HO2 := Aside0.mk hO
            have HB2 := Aside0.mk hB
            clear hO hB
            go_wp2_with fail
            go_roundg (xs.length - (i + 1))
            case measure => omega
            case rel => exact ⟨i + 1, _, by omega, rfl, by rw [← round1], HY2, HO2, HB2⟩
          · have b3 : (x.f0 == 3) = false := by simp [k3]
            by_cases k4 : x.f0 = 4
            · have b4 : (x.f0 == 4) = true := by simp [k4]
              have hcv := print_bytes (P := Tryd.prog) 9 25 5 Tryd.underlying9 Tryd.underlying25 Tryd.underlying5 x.f2 w1
              rw [tailV_4 k4] at HY1
              have hl4 : ys1.length + ((escB (Lib.bytesOf (bytesOf x.f2))).length + 2) ≤ 70000000000000 := by
                have h1 := HL.out
                rw [← HY1.out, List.length_append, List.length_append, text_size] at h1
                omega
              have hs4 : x.f2.size ≤ 70000000000000 := by have := text_le x.f2; omega
              have HAL1 : Aside0 ((ys1.length + (escB (Lib.bytesOf (bytesOf x.f2))).length) * 1 ≤ 140737488355328) := ⟨by omega⟩
              have HAL2 : Aside0 (((ys1 ++ numsB (escB (Lib.bytesOf (bytesOf x.f2)))).length + 2) * 1 ≤ 140737488355328) := ⟨by rw [List.length_append, numsB, List.length_map]; omega⟩
              have HY2 : Aside0 (((ys1 ++ numsB (escB (Lib.bytesOf (bytesOf x.f2)))) ++ [0, 1]) ++ keyL (xs.drop (i + 1)) = keyL xs) := ⟨by rw [← HY1.out, textB]; simp only [List.append_assoc]⟩
              have HT := Aside0.mk (text_call w1 x.f2 hs4)
              clear hl4 hs4
              go_wp2_with fail
              refine HT.out.mono ?_
              rintro e w2 ⟨A2, c2, rfl, hC, hB⟩
              have HO2 := Aside0.mk (Kd.R_below HO1.out hB)
              have HC2 := Aside0.mk hC
              have HB2 := Aside0.mk (HB1.out.trans (hB.mono (below_size HB1.out)))
              clear hC hB HT hcv
              obtain ⟨zs, hzs⟩ : ∃ z, z = numsB (escB (Lib.bytesOf (bytesOf x.f2))) := ⟨_, rfl⟩
              obtain ⟨m, hm⟩ : ∃ m, m = (escB (Lib.bytesOf (bytesOf x.f2))).length := ⟨_, rfl⟩
              rw [← hzs, ← hm] at HC2
              rw [← hzs] at HY2 HAL2
              rw [← hm] at HAL1
              rw [← hm]
              obtain ⟨ys3, hy3⟩ : ∃ y, y = ys1 ++ zs := ⟨_, rfl⟩
              rw [← hy3] at HY2 HAL2
              have Ny3 := Aside0.mk hy3
              clear hzs hm hy3
              go_wp2_with (first | ((with_reducible refine gate_builtin (b := .append) (xs := #[.tmp 46, .tmp 52]) rfl ?_); at_builtin; refine Kd.R_append_row (P := Tryd.prog) (Value.int .u8) (0 : Int) (h1 := fun _ => rfl) (w0 := w) w.heap.size rfl (.tmp 46) (.tmp 52) 25 5 (.int .u8 0) 1 rfl Tryd.underlying25 info5' rfl (by decide) (.slice A1 ys1.length c1) ys1 zs A2 m c2 (fun _ => True) rfl rfl (fun _ _ => trivial) ?aO ?aR ?aB ?aS ?aL ?_; (case aO => exact HO2.out); (case aR => exact HC2.out); (case aB => exact HB2.out); (case aS => exact (below_size HB2.out)); (case aL => exact HAL1.out); intro v3 w3 ho hb hg hat; rw [← Ny3.out] at ho; obtain ⟨A3, c3, rfl⟩ := Kd.R_slice ho; have HO3 := Aside0.mk ho; have HB3 := Aside0.mk hb; clear ho hb hg hat) | ((with_reducible refine gate_builtin (b := .append) (xs := #[.tmp 54, .tmp 55]) rfl ?_); at_builtin; refine Kd.R_append_row (P := Tryd.prog) (Value.int .u8) (0 : Int) (h1 := fun _ => rfl) (w0 := w) w.heap.size rfl (.tmp 54) (.tmp 55) 25 5 (.int .u8 0) 1 rfl Tryd.underlying25 info5' rfl (by decide) (.slice A3 ys3.length c3) ys3 [0, 1] (some ⟨w3.heap.size, 0, none⟩) 2 2 (fun _ => True) rfl rfl (fun _ _ => trivial) ?aO ?aR ?aB ?aS ?aL ?_; (case aO => exact (Kd.R_alloc HO3.out _)); (case aR => exact (C_two w3 0 1)); (case aB => exact (below_alloc HB3.out _)); (case aS => exact (below_size (below_alloc HB3.out _))); (case aL => exact HAL2.out); intro v4 w4 ho hb hg hat; have HO4 := Aside0.mk ho; have HB4 := Aside0.mk hb; clear ho hb hg hat))
              go_roundg (xs.length - (i + 1))
              case measure => omega
              case rel => exact ⟨i + 1, _, by omega, rfl, by rw [← round1], HY2, HO4, HB4⟩
            · have b4 : (x.f0 == 4) = false := by simp [k4]
              go_wp2_with fail
              go_roundg (xs.length - (i + 1))
              case measure => omega
              case rel => exact ⟨i + 1, ys1, by omega, rfl, by rw [← round1], ⟨by have := HY1.out; rwa [tailV_0 k1 k2 k3 k4, List.nil_append] at this⟩, HO1, HB1⟩
    · have clt : decide (i < xs.length) = false := decide_eq_false hlt
      obtain rfl : i = xs.length := by omega
      have hY := HY.out
      rw [List.drop_of_length_le (Nat.le_refl _)] at hY
      simp only [keyL, List.append_nil] at hY
      have HYs := Aside0.mk hY
      clear hY HY
      go_wp2_with fail
      go_ret
      exact ⟨_, rfl, (by show kb.R 5 wr _ _ (.slice Av ys.length cv) (keyL xs); rw [← HYs.out]; exact HO.out), HB.out⟩
end Go.Proofs.YthoemenchimggaaDoor
