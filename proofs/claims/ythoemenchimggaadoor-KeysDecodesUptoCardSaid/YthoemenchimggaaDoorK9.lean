/- Package bytes: Replace of the byte 0 by 0, 255, all of them: the walk. -/
import Derived.Test.YthoemenchimggaaDoorK8
import Derived.Deep.RegionLaw
import Derived.StillTailTactics
import Derived.Deep.LoopGhost
namespace Go.Proofs.YthoemenchimggaaDoor
open Go.RowKit Go.Proofs.YthoemenchimggaaDoorW.PrintWords Go.Proofs.YthoemenchimggaaDoorW.PrintLast Go.Proofs.YthoemenchimggaaDoorW.PrintMore A Fl
set_option linter.unusedVariables false
set_option linter.unusedSimpArgs false
theorem hs5 : (Tryd.prog.info? 5).map (·.size) = some 1 := by
  obtain ⟨i, hi, hzz⟩ := Option.map_eq_some_iff.1 info5'
  simp only [Prod.mk.injEq] at hzz
  rw [hi]; simp [hzz.2.1]
/-- Bytes as numbers. -/
def numsB (l : List UInt8) : List Int := l.map fun b => (b.toNat : Int)
theorem nums_of (xs : List Int) (hx : ∀ x ∈ xs, 0 ≤ x ∧ x < 256) : numsB (Lib.bytesOf xs) = xs := by
  unfold numsB Lib.bytesOf
  rw [List.map_map]
  conv => rhs; rw [← List.map_id xs]
  apply List.map_congr_left
  intro x hm
  have := hx x hm
  simp only [Function.comp, id]
  rw [UInt8.toNat_ofNat']
  omega
/-- A buffer that is filled to the brim, read as a row. -/
theorem buf_C {w0 wr : World} {h N : Nat} {acc : List UInt8} (hb : Lib.Buf w0 wr h N acc) (hN : acc.length = N) (hm : N ≤ 9223372036854775807) : kb.C wr (some ⟨h, 0, none⟩) N (numsB acc) := by
  refine Kd.C_of_reads (enc := Value.int .u8) (d := (0 : Int)) (h1 := fun _ => rfl) ⟨by simp [numsB, hN], hm, fun hn => ⟨_, rfl, fun j hj => ?_⟩⟩
  have hj' : j < acc.length := by omega
  have hc := hb.holds j acc[j] (List.getElem?_eq_getElem hj')
  have e : (numsB acc).getD j 0 = (acc[j].toNat : Int) := by
    unfold numsB
    rw [List.getD_eq_getElem?_getD, List.getElem?_map, List.getElem?_eq_getElem hj']
    rfl
  rw [e]
  by_cases h0 : j = 0
  · subst h0; simpa [Addr.add] using hc
  · simpa [Addr.add, h0] using hc
theorem buf_start (w : World) (N : Nat) : Lib.Buf w (w.alloc (.cells (madeCells #[.int .u8 0] N) 5)) w.heap.size N [] := by
  have := Lib.Buf.start w (madeCells #[.int .u8 0] N) 5 N 0 (by simp [madeCells])
  exact this
theorem step_copy_run {P : Program} {ops : Array Oper} (w : World) {o : Oper} {a : Act} {K : Act → World → Prop} {Q : Exit → Act → World → Prop} {E : Prop} (hg : o.guard = none) (d s : Operand) (t t' : TypeId)
    (ho : o.op = .call { callee := .builtin .copy, args := #[d, s], argTypes := #[t, t'] }) (v u : Value) (hd : a.eval d = v) (hs : a.eval s = u) {v' : Value} {w' : World}
    (hr : (Builtin.copy_ #[t, t'] o.type #[v, u]).run P w = .ok v' w') (h : K (a.put o.dst v') w') : if Region.wanted o (yielded ops a.tmps) = true then Oper.wp P o a w K Q else E := by
  rw [if_pos (by simp [Region.wanted, hg])]
  exact Lib.wp_copy_run w d s t t' ho v u hd hs hr h
theorem buf_drew {w0 wr : World} {h N : Nat} {acc : List UInt8} (hb : Lib.Buf w0 wr h N acc) : Lib.Buf w0 wr.drew h N acc := ⟨hb.below.drew, hb.there, hb.free, hb.holds, hb.fits⟩
theorem bytes_drop (xs : List Int) (k : Nat) : Lib.bytesOf (xs.drop k) = (Lib.bytesOf xs).drop k := by simp [Lib.bytesOf]
theorem bytes_cut (xs : List Int) (l k : Nat) : Lib.bytesOf ((xs.drop l).take k) = ((Lib.bytesOf xs).drop l).take k := by simp [Lib.bytesOf]
theorem take_more (l : List UInt8) (s k : Nat) : l.take (s + k) = l.take s ++ (l.drop s).take k := List.take_add
def RepPost (w : World) (l : List UInt8) (e : Ending) (w' : World) : Prop :=
  ∃ A' c', e = .returned (.slice A' (escB l).length c') ∧ (escB l).length ≤ c' ∧ kb.C w' A' (escB l).length (numsB (escB l)) ∧ Below w.heap.size w w'
set_option maxHeartbeats 4000000 in
set_option maxRecDepth 100000 in
theorem replace_none (A A1 A2 : Option Addr) (n c c1 c2 : Nat) (xs : List Int) (w : World) (hl : xs.length = n) (hn : n ≤ 140737488355328) (hc : n ≤ c) (hx : ∀ x ∈ xs, 0 ≤ x ∧ x < 256) (h : kb.C w A n xs) (h1 : kb.C w A1 1 [0]) (h0 : (Lib.bytesOf xs).count 0 = 0) :
    Calls Tryd.prog 37 #[.slice A n c, .slice A1 1 c1, .slice A2 2 c2, .int .i64 (-1)] w (RepPost w (Lib.bytesOf xs)) := by
  have HC := Aside0.mk (count_calls A A1 n c c1 xs 0 w hl h h1)
  have e0 : Lib.countByte (Lib.bytesOf xs) (Int.toNat 0).toUInt8 = 0 := h0
  have HC0 := Aside0.mk e0
  have H := Aside0.mk h
  have HE := Aside0.mk (escB_none _ h0)
  have HX := Aside0.mk (nums_of xs hx)
  have HL := Aside0.mk hl
  have HN := Aside0.mk hn
  clear h h1 h0 e0 hx hl hn
  go_enter Tryd.func37, Tryd.ntmps37
  go_wp2_with fail
  refine HC.out.mono ?_
  rintro e w' ⟨rfl, rfl⟩
  rw [HC0.out]
  go_wp2_with (first | ((with_reducible refine gate_builtin (b := .append) (xs := #[.const (.slice none 0 0), .tmp 24]) rfl ?_); at_builtin; refine Kd.R_append_row (P := Tryd.prog) (Value.int .u8) (0 : Int) (h1 := fun _ => rfl) (w0 := w) w.heap.size rfl (.const (.slice none 0 0)) (.tmp 24) 25 5 (.int .u8 0) 1 rfl Tryd.underlying25 info5' rfl (by decide) (.slice none 0 0) [] xs A n c (fun _ => True) rfl rfl (fun _ _ => trivial) ?aO ?aR ?aB ?aS ?aL ?_; (case aO => exact Kd.R_nil _ _ _ _ _); (case aR => exact H.out); (case aB => exact Below.refl _ _); (case aS => exact Nat.le_refl _); (case aL => have := HN.out; rw [List.length_nil]; omega); intro v7 w2 ho hb hg hat; have HO7 := Aside0.mk ho; have HB7 := Aside0.mk hb; clear ho hb hg hat))
  go_ret
  obtain ⟨A7, c7, e7, hl7, hC7⟩ := Kd.R_reads HO7.out
  rw [List.nil_append] at e7 hl7 hC7
  subst e7
  refine ⟨A7, c7, ?_, ?_, ?_, HB7.out⟩
  · rw [HE.out, Lib.bytesOf_length]; rfl
  · rw [HE.out, Lib.bytesOf_length]; exact hl7
  · rw [HE.out, Lib.bytesOf_length, HX.out]; exact hC7
/-- What a round of Replace has in hand, and what it hands on. -/
structure Rep (w wr : World) (xs : List Int) (m N i start : Nat) (acc : List UInt8) : Prop where
  hi : i ≤ m
  hs : start ≤ xs.length
  ha : acc = escB ((Lib.bytesOf xs).take start)
  hc : ((Lib.bytesOf xs).drop start).count 0 + i = m
  hl : acc.length = start + i
  hN : xs.length + m = N
  hn : xs.length ≤ 70000000000000
  hm : m ≤ xs.length
  hb : Lib.Buf w wr w.heap.size N acc
theorem rep_round {w wr : World} {xs : List Int} {m N i start : Nat} {acc : List UInt8} (R : Rep w wr xs m N i start acc) (hlt : i < m) (A A1 A2 : Option Addr) (c c1 c2 : Nat) (hcc : xs.length ≤ c) (hx : ∀ x ∈ xs, 0 ≤ x ∧ x < 256) (h : kb.C w A xs.length xs) (h1 : kb.C w A1 1 [0]) (h2 : kb.C w A2 2 [0, 255]) :
    ∃ (k : Nat) (A3 A4 : Option Addr) (w1 w2 : World),
      (∀ W, (Instr.slice 25 (.slice A xs.length c) (some (.int .i64 (start : Int))) none none).run Tryd.prog W = .ok (.slice A3 (xs.length - start) (c - start)) W) ∧
      Calls Tryd.prog 47 #[.slice A3 (xs.length - start) (c - start), .slice A1 1 c1] wr (fun e w' => e = .returned (.int .i64 (k : Int)) ∧ wr = w') ∧
      wrap64 ((start : Int) + (k : Int)) = (start : Int) + (k : Int) ∧
      (∀ W, (Instr.slice 25 (.slice A xs.length c) (some (.int .i64 (start : Int))) (some (.int .i64 ((start : Int) + (k : Int)))) none).run Tryd.prog W = .ok (.slice A4 k (c - start)) W) ∧
      (∀ W, (Instr.slice 25 (.slice (some ⟨w.heap.size, 0, none⟩) N N) (some (.int .i64 (acc.length : Int))) none none).run Tryd.prog W = .ok (Lib.tailV w.heap.size N acc.length) W) ∧
      (Builtin.copy_ #[25, 25] 3 #[Lib.tailV w.heap.size N acc.length, .slice A4 k (c - start)]).run Tryd.prog wr.drew = .ok (.int .i64 (k : Int)) w1 ∧
      wrap64 ((acc.length : Int) + (k : Int)) = (acc.length : Int) + (k : Int) ∧
      (∀ W, (Instr.slice 25 (.slice (some ⟨w.heap.size, 0, none⟩) N N) (some (.int .i64 ((acc.length : Int) + (k : Int)))) none none).run Tryd.prog W = .ok (Lib.tailV w.heap.size N (acc.length + k)) W) ∧
      (Builtin.copy_ #[25, 25] 3 #[Lib.tailV w.heap.size N (acc.length + k), .slice A2 2 c2]).run Tryd.prog w1 = .ok (.int .i64 2) w2 ∧
      wrap64 ((acc.length : Int) + (k : Int) + 2) = (acc.length : Int) + (k : Int) + 2 ∧ wrap64 ((start : Int) + (k : Int) + 1) = (start : Int) + (k : Int) + 1 ∧ wrap64 ((i : Int) + 1) = (i : Int) + 1 ∧
      ¬ N = acc.length + k ∧ (0 ≤ wrap64 ((acc.length : Int) + (k : Int)) ∧ wrap64 ((acc.length : Int) + (k : Int)) ≤ (N : Int)) ∧ ∃ acc2 : List UInt8, acc2.length = acc.length + k + 2 ∧ Rep w w2 xs m N (i + 1) (start + k + 1) acc2 := by
  obtain ⟨hi, hs, ha, hc, hl, hN, hn, hm, hb⟩ := R
  have hlb : (Lib.bytesOf xs).length = xs.length := Lib.bytesOf_length xs
  obtain ⟨A3, hcut, hC3⟩ := cut_l A c xs start hs hcc
  obtain ⟨k, k1, k2, k3, k4, k5⟩ := idx_ge ((Lib.bytesOf xs).drop start) (by omega)
  have hkl : start + k < xs.length := by rw [List.length_drop, hlb] at k2; omega
  have hcl : ((Lib.bytesOf xs).drop start).count 0 ≤ ((Lib.bytesOf xs).drop start).length := List.count_le_length
  rw [List.length_drop, hlb] at hcl
  have hkd : ((Lib.bytesOf xs).drop (start + k + 1)).count 0 ≤ ((Lib.bytesOf xs).drop (start + k + 1)).length := List.count_le_length
  rw [List.length_drop, hlb] at hkd
  rw [List.drop_drop, ← Nat.add_assoc] at k5
  rw [List.drop_drop, List.drop_drop, ← Nat.add_assoc] at k4
  have e1 : Lib.indexByte (Lib.bytesOf (xs.drop start)) (Int.toNat 0).toUInt8 = (k : Int) := by rw [bytes_drop]; exact k1
  have IX := index_calls A3 A1 (xs.length - start) (c - start) c1 (xs.drop start) 0 wr (by rw [List.length_drop]) (Kd.C_below (hC3 w h) hb.below) (Kd.C_below h1 hb.below)
  rw [e1] at IX
  obtain ⟨A4, hcut4, hC4⟩ := cut_lh A c xs start (start + k) (by omega) (by omega) hcc
  rw [Nat.add_sub_cancel_left] at hcut4 hC4
  have HV := holds_of (c := c - start) (hC4 w h) (by rw [List.length_take, List.length_drop]; omega) (fun x hm => hx x (List.mem_of_mem_drop (List.mem_of_mem_take hm)))
  rw [bytes_cut] at HV
  have hl4 : (((Lib.bytesOf xs).drop start).take k).length = k := by rw [List.length_take]; omega
  have HV2 := holds_of (c := c2) h2 rfl (by simp)
  obtain ⟨w1, hr1, B1⟩ := Lib.copy_part (P := Tryd.prog) w wr.drew w.heap.size N acc _ _ 25 3 5 Tryd.underlying25 hs5 (Nat.le_refl _) (buf_drew hb) HV (by rw [hl4]; omega)
  obtain ⟨w2, hr2, B2⟩ := Lib.copy_part (P := Tryd.prog) w w1 w.heap.size N _ _ _ 25 3 5 Tryd.underlying25 hs5 (Nat.le_refl _) B1 HV2 (by rw [List.length_append, hl4, show (Lib.bytesOf [0, 255]).length = 2 from rfl]; omega)
  rw [hl4] at hr1
  rw [List.length_append, hl4] at hr2
  have c1 : ((start + k : Nat) : Int) = (start : Int) + (k : Int) := Int.natCast_add _ _
  have c2' : ((acc.length + k : Nat) : Int) = (acc.length : Int) + (k : Int) := Int.natCast_add _ _
  rw [c1] at hcut4
  have s4 := fun W => Lib.run_slice_tailV (P := Tryd.prog) W 25 5 Tryd.underlying25 size5 w.heap.size N (acc.length + k) (by omega)
  rw [c2'] at s4
  refine ⟨k, A3, A4, w1, w2, hcut, IX, IntWalk.wrap64_in _ (by omega), hcut4, fun W => Lib.run_slice_tailV W 25 5 Tryd.underlying25 size5 _ N acc.length (by omega), hr1, IntWalk.wrap64_in _ (by omega), s4, hr2, IntWalk.wrap64_in _ (by omega), IntWalk.wrap64_in _ (by omega), IntWalk.wrap64_in _ (by omega), by omega, by rw [IntWalk.wrap64_in _ (by omega)]; omega, acc ++ ((Lib.bytesOf xs).drop start).take k ++ Lib.bytesOf [0, 255], ?_, ?_⟩
  · rw [List.length_append, List.length_append, hl4]; rfl
  · refine ⟨hlt, hkl, ?_, by omega, ?_, hN, hn, hm, B2⟩
    · have e0 : (Lib.bytesOf xs).take (start + k + 1) = (Lib.bytesOf xs).take start ++ ((Lib.bytesOf xs).drop start).take k ++ [0] := by
        rw [take_more _ (start + k) 1, take_more _ start k, k4]
        rfl
      rw [e0, escB_append, escB_append, ← ha, escB_none _ k3]
      rfl
    · rw [List.length_append, List.length_append, hl4, hl, show (Lib.bytesOf [0, 255]).length = 2 from rfl]; omega
theorem rep_end {w wr : World} {xs : List Int} {m N start : Nat} {acc : List UInt8} (R : Rep w wr xs m N m start acc) (A : Option Addr) (c : Nat) (hcc : xs.length ≤ c) (hx : ∀ x ∈ xs, 0 ≤ x ∧ x < 256) (h : kb.C w A xs.length xs) :
    ∃ (A3 : Option Addr) (w1 : World),
      (∀ W, (Instr.slice 25 (.slice A xs.length c) (some (.int .i64 (start : Int))) none none).run Tryd.prog W = .ok (.slice A3 (xs.length - start) (c - start)) W) ∧
      (∀ W, (Instr.slice 25 (.slice (some ⟨w.heap.size, 0, none⟩) N N) (some (.int .i64 (acc.length : Int))) none none).run Tryd.prog W = .ok (Lib.tailV w.heap.size N acc.length) W) ∧
      (Builtin.copy_ #[25, 25] 3 #[Lib.tailV w.heap.size N acc.length, .slice A3 (xs.length - start) (c - start)]).run Tryd.prog wr.drew = .ok (.int .i64 ((xs.length - start : Nat) : Int)) w1 ∧
      wrap64 ((acc.length : Int) + ((xs.length - start : Nat) : Int)) = (N : Int) ∧
      (∀ W, (Instr.slice 25 (.slice (some ⟨w.heap.size, 0, none⟩) N N) (some (.int .i64 0)) (some (.int .i64 (N : Int))) none).run Tryd.prog W = .ok (.slice (some ⟨w.heap.size, 0, none⟩) N N) W) ∧
      (escB (Lib.bytesOf xs)).length = N ∧ kb.C w1 (some ⟨w.heap.size, 0, none⟩) N (numsB (escB (Lib.bytesOf xs))) ∧ Below w.heap.size w w1 := by
  obtain ⟨hi, hs, ha, hc, hl, hN, hn, hm, hb⟩ := R
  have hlb : (Lib.bytesOf xs).length = xs.length := Lib.bytesOf_length xs
  obtain ⟨A3, hcut, hC3⟩ := cut_l A c xs start hs hcc
  have HV := holds_of (c := c - start) (hC3 w h) (by rw [List.length_drop]) (fun x hm => hx x (List.mem_of_mem_drop hm))
  have hl4 : (Lib.bytesOf (xs.drop start)).length = xs.length - start := by rw [Lib.bytesOf_length, List.length_drop]
  obtain ⟨w1, hr1, B1⟩ := Lib.copy_part (P := Tryd.prog) w wr.drew w.heap.size N acc _ _ 25 3 5 Tryd.underlying25 hs5 (Nat.le_refl _) (buf_drew hb) HV (by rw [hl4]; omega)
  rw [hl4] at hr1
  have hcn : (Lib.bytesOf xs).count 0 = m := by
    have h1 := escB_length ((Lib.bytesOf xs).take start)
    have h2 : (Lib.bytesOf xs).count 0 = ((Lib.bytesOf xs).take start).count 0 + ((Lib.bytesOf xs).drop start).count 0 := by
      rw [← List.count_append, List.take_append_drop]
    rw [← ha, hl, List.length_take, hlb, Nat.min_eq_left hs] at h1
    omega
  have hE : escB (Lib.bytesOf xs) = acc ++ Lib.bytesOf (xs.drop start) := by
    have e3 := escB_append ((Lib.bytesOf xs).take start) ((Lib.bytesOf xs).drop start)
    rw [List.take_append_drop, escB_none ((Lib.bytesOf xs).drop start) (by omega)] at e3
    rw [e3, ha, bytes_drop]
  have hEl : (escB (Lib.bytesOf xs)).length = N := by rw [escB_length, hlb]; omega
  refine ⟨A3, w1, hcut, fun W => Lib.run_slice_tailV W 25 5 Tryd.underlying25 size5 _ N acc.length (by omega), hr1, by rw [IntWalk.wrap64_in _ (by omega)]; omega, ?_, hEl, ?_, B1.below⟩
  · intro W
    have ht : Tryd.prog.underlying 25 = some (.slice (Tryd.prog.elem 25)) := by rw [elem25]; exact Tryd.underlying25
    rw [run_slice_lh W 25 _ N N ht .i64 .i64 0 (N : Int) (by omega) (by omega) (by omega), elem25, size5]
    simp [Result.andThen, sliced, Int.toNat_natCast]
    intro _
    simp [Addr.add]
  · rw [← hE] at B1
    exact buf_C B1 hEl (by omega)
theorem rep_meas {m i g : Nat} (h1 : m - i ≤ g) (h2 : i < m) : g - 1 < g ∧ m - (i + 1) ≤ g - 1 := by omega
theorem rep_cast1 (i : Nat) : (i : Int) + 1 = ((i + 1 : Nat) : Int) := by omega
theorem rep_cast2 (s k : Nat) : (s : Int) + (k : Int) + 1 = ((s + k + 1 : Nat) : Int) := by omega
theorem rep_cast3 {a k b : Nat} (h : b = a + k + 2) : (a : Int) + (k : Int) + 2 = (b : Int) := by omega
set_option maxHeartbeats 8000000 in
set_option maxRecDepth 100000 in
theorem replace_some (A A1 A2 : Option Addr) (c c1 c2 : Nat) (xs : List Int) (w : World) (hn : xs.length ≤ 70000000000000) (hc : xs.length ≤ c) (hx : ∀ x ∈ xs, 0 ≤ x ∧ x < 256) (h : kb.C w A xs.length xs) (h1 : kb.C w A1 1 [0]) (h2 : kb.C w A2 2 [0, 255]) (h0 : 0 < (Lib.bytesOf xs).count 0) :
    Calls Tryd.prog 37 #[.slice A xs.length c, .slice A1 1 c1, .slice A2 2 c2, .int .i64 (-1)] w (RepPost w (Lib.bytesOf xs)) := by
  have HC := Aside0.mk (count_calls A A1 xs.length c c1 xs 0 w rfl h h1)
  obtain ⟨m, hm⟩ : ∃ m, (Lib.bytesOf xs).count 0 = m := ⟨_, rfl⟩
  have e0 : Lib.countByte (Lib.bytesOf xs) (Int.toNat 0).toUInt8 = m := hm
  have hmn : m ≤ xs.length := by rw [← hm, ← Lib.bytesOf_length xs]; exact List.count_le_length
  rw [hm] at h0
  obtain ⟨N, hN⟩ : ∃ N, xs.length + m = N := ⟨_, rfl⟩
  have fm : ((m : Int) == 0) = false := by simp; omega
  have hmk := print_make_int (P := Tryd.prog) 25 5 (.int .u8 0) 1 Tryd.underlying25 info5' rfl (by omega) (N : Int) (by omega) (by omega)
  rw [Int.toNat_natCast] at hmk
  have hwm : wrap64 (m : Int) = (m : Int) := IntWalk.wrap64_in _ (by omega)
  have hwN : wrap64 ((xs.length : Int) + (m : Int)) = (N : Int) := by rw [IntWalk.wrap64_in _ (by omega)]; omega
  have R0 : Rep w (w.alloc (.cells (madeCells #[.int .u8 0] N) 5)) xs m N 0 0 [] := ⟨Nat.zero_le _, Nat.zero_le _, rfl, hm, rfl, hN, hn, hmn, buf_start w N⟩
  have HR0 := Aside0.mk R0
  have RR := fun (wr : World) (i start : Nat) (acc : List UInt8) (R : Rep w wr xs m N i start acc) (hlt : i < m) => rep_round R hlt A A1 A2 c c1 c2 hc hx h h1 h2
  have RE := fun (wr : World) (start : Nat) (acc : List UInt8) (R : Rep w wr xs m N m start acc) => rep_end R A c hc hx h
  have HRR := Aside0.mk RR
  have HRE := Aside0.mk RE
  have HC0 := Aside0.mk e0
  clear h h1 h2 hx hn hmn hc e0 hm hN h0 R0 RR RE
  go_enter Tryd.func37, Tryd.ntmps37
  go_wp2_with fail
  refine HC.out.mono ?_
  rintro e w' ⟨rfl, rfl⟩
  rw [HC0.out]
  go_wp2_with fail
  clear hmk hwm hwN
  go_loopg [11, 12, 49] m (fun gk v11 v12 v49 wr => ∃ (i start : Nat) (acc : List UInt8), v49 = .int .i64 (i : Int) ∧ v12 = .int .i64 (start : Int) ∧ v11 = .int .i64 (acc.length : Int) ∧ Aside0 (m - i ≤ gk) ∧ Aside0 (Rep w wr xs m N i start acc))
  case atStart => exact ⟨0, 0, [], rfl, rfl, rfl, ⟨Nat.le_refl _⟩, HR0⟩
  case round =>
    obtain ⟨i, start, acc, rfl, rfl, rfl, Hg, HR⟩ := hrel
    clear HR0
    by_cases hlt : i < m
    · have clt : decide (i < m) = true := decide_eq_true hlt
      obtain ⟨k, A3, A4, w1, w2, s1, IX, e1, s2, s3, r1, e2, s4, r2, e3, e4, e5, ne, hb6, acc2, hl2, R2⟩ := HRR.out wr i start acc HR.out hlt
      unfold Lib.tailV at r2
      rw [if_neg ne] at r2
      have HNE := Aside0.mk ne
      clear ne s4
      have HIX := Aside0.mk IX
      have HR2 := Aside0.mk R2
      have Hlt := Aside0.mk hlt
      have HL2 := Aside0.mk hl2
      clear IX R2 hlt hl2
      go_wp2_with fail
      refine HIX.out.mono ?_
      rintro e w' ⟨rfl, rfl⟩
      go_wp2_with fail
      refine wp_region_noPanic ?_
      refine wp_region_any (by kernel_rfl) ?_
      change wpAny _ _ _ _ _ _ _ (World.drew _)
      refine wpAny_take (i := 0) (v := (.int .i64 (acc.length : Int))) rfl (by kernel_rfl) (by kernel_rfl) (by kernel_rfl) (fun _ _ _ h => h) (Or.inl ⟨by rfl, fun _ => by (go_simp; try with_reducible rfl)⟩) ?_
      refine wpAny_take (i := 1) (v := (.slice (some ⟨w.heap.size, 0, none⟩) N N)) rfl (by kernel_rfl) (by kernel_rfl) (by kernel_rfl) (fun _ _ _ h => h) (Or.inl ⟨by rfl, fun _ => by (go_simp; try with_reducible rfl)⟩) ?_
      refine wpAny_take (i := 2) (v := (.int .i64 (acc.length : Int))) rfl (by kernel_rfl) (by kernel_rfl) (by kernel_rfl) (fun _ _ _ h => h) (Or.inl ⟨by rfl, fun _ => by (go_simp; try with_reducible rfl)⟩) ?_
      refine wpAny_take (i := 3) (v := (Lib.tailV w.heap.size N acc.length)) rfl (by kernel_rfl) (by kernel_rfl) (by kernel_rfl) (fun _ _ _ h => h) (Or.inl ⟨by rfl, fun _ => by (go_simp; try with_reducible rfl)⟩) ?_
      refine wpAny_take (i := 4) (v := (.slice A xs.length c)) rfl (by kernel_rfl) (by kernel_rfl) (by kernel_rfl) (fun _ _ _ h => h) (Or.inl ⟨by rfl, fun _ => by (go_simp; try with_reducible rfl)⟩) ?_
      refine wpAny_take (i := 5) (v := (.int .i64 (start : Int))) rfl (by kernel_rfl) (by kernel_rfl) (by kernel_rfl) (fun _ _ _ h => h) (Or.inl ⟨by rfl, fun _ => by (go_simp; try with_reducible rfl)⟩) ?_
      refine wpAny_take (i := 6) (v := (.int .i64 ((start : Int) + (k : Int)))) rfl (by kernel_rfl) (by kernel_rfl) (by kernel_rfl) (fun _ _ _ h => h) (Or.inl ⟨by rfl, fun _ => by (go_simp; try with_reducible rfl)⟩) ?_
      refine wpAny_take (i := 7) (v := (.slice A4 k (c - start))) rfl (by kernel_rfl) (by kernel_rfl) (by kernel_rfl) (fun _ _ _ h => h) (Or.inl ⟨by rfl, fun _ => by (go_simp; try with_reducible rfl)⟩) ?_
      simp only [Act.put, List.setIfInBounds_toArray, List.set_cons_zero, List.set_cons_succ]
      refine wpAny_ready (rs := [8]) (by kernel_rfl) (by simp) ?_
      refine AllReady.cons (o := { dst := some 66, op := Op.call { callee := Callee.builtin Builtin.copy, args := #[Operand.tmp 61, Operand.tmp 65], argTypes := #[25, 25] }, type := 3, pos := "bytes.go:1183", after := #[{ on := 3, ground := Ground.data }, { on := 7, ground := Ground.data }], guard := none }) rfl (fun K hK => ?_) AllReady.nil
      refine step_copy_run (P := Tryd.prog) wr.drew rfl (.tmp 61) (.tmp 65) 25 25 rfl (Lib.tailV w.heap.size N acc.length) (.slice A4 k (c - start)) ?hd ?hs r1 ?_; (case hd => simp [Act.eval]); (case hs => simp [Act.eval])
      refine hK _ _ ?_
      clear hK K
      refine wpAny_ready (rs := [9]) (by kernel_rfl) (by simp) ?_
      refine AllReady.cons rfl (fun K hK => ?_) AllReady.nil
      go_simp
      refine hK _ _ ?_
      clear hK K
      refine wpAny_ready (rs := [10]) (by kernel_rfl) (by simp) ?_
      refine AllReady.cons rfl (fun K hK => ?_) AllReady.nil
      go_simp
      refine hK _ _ ?_
      clear hK K
      refine wpAny_done (by kernel_rfl) ?_ _
      refine NoPanic.normal ?_
      go_wp2_with (at_builtin; refine Lib.wpList_copy_run _ rfl _ _ 25 25 rfl _ _ rfl rfl r2 ?_)
      all_goals (try (first | exact absurd rfl HNE.out | exact absurd (by assumption) HNE.out | exact absurd (Eq.symm (by assumption)) HNE.out | exact absurd hb6 (by assumption)))
      go_roundg (gk - 1)
      case measure => exact (rep_meas Hg.out Hlt.out).1
      case rel =>
        refine ⟨i + 1, start + k + 1, acc2, ?_, ?_, ?_, ⟨(rep_meas Hg.out Hlt.out).2⟩, HR2⟩
        · first | rw [e5, rep_cast1] | rw [rep_cast1]
        · first | rw [e4, rep_cast2] | rw [rep_cast2]
        · first | rw [e3, rep_cast3 HL2.out] | rw [rep_cast3 HL2.out]
    · have him : i = m := Nat.le_antisymm HR.out.hi (Nat.le_of_not_lt hlt)
      subst him
      have clt : decide (i < i) = false := decide_eq_false (Nat.lt_irrefl _)
      obtain ⟨A3, w1, s1, s2, r1, e1, s3, q1, q2, q3⟩ := HRE.out wr start acc HR.out
      have Q1 := Aside0.mk q1
      have Q2 := Aside0.mk q2
      have Q3 := Aside0.mk q3
      clear q1 q2 q3 hlt
      go_wp2_with fail
      refine wp_region_noPanic ?_
      refine wp_region_any (by kernel_rfl) ?_
      change wpAny _ _ _ _ _ _ _ (World.drew _)
      refine wpAny_take (i := 0) (v := (.int .i64 (acc.length : Int))) rfl (by kernel_rfl) (by kernel_rfl) (by kernel_rfl) (fun _ _ _ h => h) (Or.inl ⟨by rfl, fun _ => by (go_simp; try with_reducible rfl)⟩) ?_
      refine wpAny_take (i := 1) (v := (.slice (some ⟨w.heap.size, 0, none⟩) N N)) rfl (by kernel_rfl) (by kernel_rfl) (by kernel_rfl) (fun _ _ _ h => h) (Or.inl ⟨by rfl, fun _ => by (go_simp; try with_reducible rfl)⟩) ?_
      refine wpAny_take (i := 2) (v := (.int .i64 (acc.length : Int))) rfl (by kernel_rfl) (by kernel_rfl) (by kernel_rfl) (fun _ _ _ h => h) (Or.inl ⟨by rfl, fun _ => by (go_simp; try with_reducible rfl)⟩) ?_
      refine wpAny_take (i := 3) (v := (Lib.tailV w.heap.size N acc.length)) rfl (by kernel_rfl) (by kernel_rfl) (by kernel_rfl) (fun _ _ _ h => h) (Or.inl ⟨by rfl, fun _ => by (go_simp; try with_reducible rfl)⟩) ?_
      refine wpAny_take (i := 4) (v := (.slice A xs.length c)) rfl (by kernel_rfl) (by kernel_rfl) (by kernel_rfl) (fun _ _ _ h => h) (Or.inl ⟨by rfl, fun _ => by (go_simp; try with_reducible rfl)⟩) ?_
      refine wpAny_take (i := 5) (v := (.int .i64 (start : Int))) rfl (by kernel_rfl) (by kernel_rfl) (by kernel_rfl) (fun _ _ _ h => h) (Or.inl ⟨by rfl, fun _ => by (go_simp; try with_reducible rfl)⟩) ?_
      refine wpAny_take (i := 6) (v := (.slice A3 (xs.length - start) (c - start))) rfl (by kernel_rfl) (by kernel_rfl) (by kernel_rfl) (fun _ _ _ h => h) (Or.inl ⟨by rfl, fun _ => by (go_simp; try with_reducible rfl)⟩) ?_
      simp only [Act.put, List.setIfInBounds_toArray, List.set_cons_zero, List.set_cons_succ]
      refine wpAny_ready (rs := [7]) (by kernel_rfl) (by simp) ?_
      refine AllReady.cons (o := { dst := some 127, op := Op.call { callee := Callee.builtin Builtin.copy, args := #[Operand.tmp 123, Operand.tmp 126], argTypes := #[25, 25] }, type := 3, pos := "bytes.go:1197", after := #[{ on := 3, ground := Ground.data }, { on := 6, ground := Ground.data }], guard := none }) rfl (fun K hK => ?_) AllReady.nil
      refine step_copy_run (P := Tryd.prog) wr.drew rfl (.tmp 123) (.tmp 126) 25 25 rfl (Lib.tailV w.heap.size N acc.length) (.slice A3 (xs.length - start) (c - start)) ?hd ?hs r1 ?_; (case hd => simp [Act.eval]); (case hs => simp [Act.eval])
      refine hK _ _ ?_
      clear hK K
      refine wpAny_ready (rs := [8]) (by kernel_rfl) (by simp) ?_
      refine AllReady.cons rfl (fun K hK => ?_) AllReady.nil
      go_simp
      refine hK _ _ ?_
      clear hK K
      refine wpAny_ready (rs := [9]) (by kernel_rfl) (by simp) ?_
      refine AllReady.cons rfl (fun K hK => ?_) AllReady.nil
      go_simp
      refine hK _ _ ?_
      clear hK K
      refine wpAny_done (by kernel_rfl) ?_ _
      refine NoPanic.normal ?_
      go_wp2_with fail
      go_ret
      exact ⟨_, N, by rw [Q1.out]; rfl, by rw [Q1.out]; exact Nat.le_refl _, by rw [Q1.out]; exact Q2.out, Q3.out⟩
end Go.Proofs.YthoemenchimggaaDoor
