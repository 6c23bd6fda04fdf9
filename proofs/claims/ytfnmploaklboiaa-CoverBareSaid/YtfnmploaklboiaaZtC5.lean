import Derived.Test.YtfnmploaklboiaaZtC4
/- cover: all, and count. Printed by a program of this session. -/
namespace Go.Proofs.Ytfnmploaklboiaa
open Go.RowKit Go.Proofs.YtfnmploaklboiaaW.PrintWords A
set_option linter.unusedSimpArgs false
set_option linter.unusedVariables false
/-- The view of a plan under a check, in memory. -/
structure Vw (w0 W : World) (g mb ob : Nat) (t : ByteArray) (A : Option Addr) (l : List S33) (c : Nat) : Prop where
  blk : W.heap[g]? = some (.cells #[.string t, .slice A l.length c, .map (some mb), .map (some ob)] 40 (0, 0))
  row : Kd.C k33 w0 A l.length l
  bel : Below w0.heap.size w0 W
  len : l.length ≤ 100000000000000
namespace Vw
variable {w0 W W1 : World} {g mb ob : Nat} {t : ByteArray} {A : Option Addr} {l : List S33} {c : Nat}
theorem c0 (h : Vw w0 W g mb ob t A l c) : W.cell? ⟨g, 0, none⟩ = some (.string t) := (blk_cell h.blk 0).trans rfl
theorem c1 (h : Vw w0 W g mb ob t A l c) : W.cell? ⟨g, 1, none⟩ = some (.slice A l.length c) := (blk_cell h.blk 1).trans rfl
theorem c2 (h : Vw w0 W g mb ob t A l c) : W.cell? ⟨g, 2, none⟩ = some (.map (some mb)) := (blk_cell h.blk 2).trans rfl
theorem c3 (h : Vw w0 W g mb ob t A l c) : W.cell? ⟨g, 3, none⟩ = some (.map (some ob)) := (blk_cell h.blk 3).trans rfl
theorem step (h : Vw w0 W g mb ob t A l c) (hb : Below W.heap.size W W1) : Vw w0 W1 g mb ob t A l c := ⟨(hb.block g (blk_lt h.blk)).trans h.blk, h.row, below_step h.bel hb, h.len⟩
end Vw
theorem mkf (fn : Fn) (first cap : Array Value) (w : World) : (Instr.makeFunc fn first cap).run Try.prog w = .ok (.func fn first cap) w := rfl
theorem all1_28 (x : S33) (vs : Array Value) (hv : IVals x vs) (p4 p5 : Addr) (op : Int) (q : Bool) (W : World) (h4 : W.cell? p4 = some (.int .i64 op)) (h5 : W.cell? p5 = some (.func (.func 28) #[] #[]))
    (hQ : ∀ W', Below W.heap.size W W' → Calls Try.prog 28 #[.agg vs] W' fun e w' => e = .returned (.bool q) ∧ Below W'.heap.size W' w') :
    Calls Try.prog 36 #[.agg vs, .pointer (some p4), .pointer (some p5)] W fun e w' => e = .returned (.bool (x.f0 == op && !q)) ∧ Below W.heap.size W w' := by
  obtain ⟨A7, A8, A11, A13, c7, c8, c11, c13, rfl⟩ := hv
  have hb := Below.alloc (Below.refl W.heap.size W) (Nat.le_refl _) (.cells (iv x A7 A8 A11 A13 c7 c8 c11 c13) 33)
  have HQ := Aside0.mk (hQ _ hb)
  have g4 := (hb.cell (World.block_lt_of_cell? W _ h4)).trans h4
  have g5 := (hb.cell (World.block_lt_of_cell? W _ h5)).trans h5
  clear hQ h4 h5
  have HB := Aside0.mk hb
  clear hb
  cases hc : (x.f0 == op)
  · go_enter Try.func36, Try.ntmps36
    go_wp2
    go_ret
    exact ⟨rfl, HB.out⟩
  · go_enter Try.func36, Try.ntmps36
    go_wp2_with (first | (go_at_call 28; (with_reducible refine (HQ.out).mono ?_); rintro e w2 ⟨rfl, hb2⟩; have HB2 := Aside0.mk (below_step HB.out hb2); clear hb2))
    go_ret
    exact ⟨ret_bool (by simp), HB2.out⟩
theorem all_28 (w0 W : World) (g mb ob : Nat) (t : ByteArray) (A : Option Addr) (l : List S33) (c : Nat) (hV : Vw w0 W g mb ob t A l c) (op : Int) (q : S33 → Bool)
    (hQ : ∀ x, x ∈ l → ∀ vs, IVals x vs → ∀ W', Below W.heap.size W W' → Calls Try.prog 28 #[.agg vs] W' fun e w' => e = .returned (.bool (q x)) ∧ Below W'.heap.size W' w') :
    Calls Try.prog 21 #[.pointer (some ⟨g, 0, none⟩), .int .i64 op, (.func (.func 28) #[] #[])] W fun e w' => e = .returned (.bool (!(l.any fun x => x.f0 == op && !q x))) ∧ Below W.heap.size W w' := by
  have hb1 := Below.alloc (Below.refl W.heap.size W) (Nat.le_refl _) (.cells #[.int .i64 op] 3)
  have hb := Below.alloc hb1 (below_size hb1) (.cells #[(.func (.func 28) #[] #[])] 50)
  have hV2 := hV.step hb
  have hs : (W.alloc (.cells #[.int .i64 op] 3)).heap.size = W.heap.size + 1 := by simp
  have k4 : ((W.alloc (.cells #[.int .i64 op] 3)).alloc (.cells #[(.func (.func 28) #[] #[])] 50)).cell? ⟨W.heap.size, 0, none⟩ = some (.int .i64 op) :=
    (blk_cell (blk_alloc (heap_alloc_new W _) _) 0).trans rfl
  have k5 : ((W.alloc (.cells #[.int .i64 op] 3)).alloc (.cells #[(.func (.func 28) #[] #[])] 50)).cell? ⟨W.heap.size + 1, 0, none⟩ = some (.func (.func 28) #[] #[]) := by
    have := heap_alloc_new (W.alloc (.cells #[.int .i64 op] 3)) (.cells #[(.func (.func 28) #[] #[])] 50)
    rw [hs] at this
    exact (blk_cell this 0).trans rfl
  have HC := Aside0.mk (containsFunc_36 ⟨W.heap.size, 0, none⟩ ⟨W.heap.size + 1, 0, none⟩ (fun x => x.f0 == op && !q x) A c l w0 _ hV.len hV.row hV2.bel (fun x hx vs hv W' hW' =>
    all1_28 x vs hv _ _ op (q x) W' ((hW'.cell (World.block_lt_of_cell? _ _ k4)).trans k4) ((hW'.cell (World.block_lt_of_cell? _ _ k5)).trans k5) (fun W2 hW2 => hQ x hx vs hv W2 (below_step (below_step hb hW') hW2))))
  have v0 := hV2.c0
  have v1 := hV2.c1
  have v2 := hV2.c2
  have v3 := hV2.c3
  have hmf := mkf
  have HB := Aside0.mk hb
  clear hV hV2 hQ k4 k5 hb hb1 hs
  go_enter Try.func21, Try.ntmps21
  go_wp2_with (first | (go_at_call 26; (with_reducible refine (HC.out).mono ?_); rintro e w2 ⟨rfl, hb2⟩; have HB2 := Aside0.mk (below_step HB.out hb2); clear hb2))
  go_ret
  exact ⟨rfl, HB2.out⟩
theorem all1_22 (pv : Addr) (x : S33) (vs : Array Value) (hv : IVals x vs) (p4 p5 : Addr) (op : Int) (q : Bool) (W : World) (h4 : W.cell? p4 = some (.int .i64 op)) (h5 : W.cell? p5 = some (.func (.func 22) #[] #[.pointer (some pv)]))
    (hQ : ∀ W', Below W.heap.size W W' → Calls Try.prog 22 #[.agg vs, .pointer (some pv)] W' fun e w' => e = .returned (.bool q) ∧ Below W'.heap.size W' w') :
    Calls Try.prog 36 #[.agg vs, .pointer (some p4), .pointer (some p5)] W fun e w' => e = .returned (.bool (x.f0 == op && !q)) ∧ Below W.heap.size W w' := by
  obtain ⟨A7, A8, A11, A13, c7, c8, c11, c13, rfl⟩ := hv
  have hb := Below.alloc (Below.refl W.heap.size W) (Nat.le_refl _) (.cells (iv x A7 A8 A11 A13 c7 c8 c11 c13) 33)
  have HQ := Aside0.mk (hQ _ hb)
  have g4 := (hb.cell (World.block_lt_of_cell? W _ h4)).trans h4
  have g5 := (hb.cell (World.block_lt_of_cell? W _ h5)).trans h5
  clear hQ h4 h5
  have HB := Aside0.mk hb
  clear hb
  cases hc : (x.f0 == op)
  · go_enter Try.func36, Try.ntmps36
    go_wp2
    go_ret
    exact ⟨rfl, HB.out⟩
  · go_enter Try.func36, Try.ntmps36
    go_wp2_with (first | (go_at_call 22; (with_reducible refine (HQ.out).mono ?_); rintro e w2 ⟨rfl, hb2⟩; have HB2 := Aside0.mk (below_step HB.out hb2); clear hb2))
    go_ret
    exact ⟨ret_bool (by simp), HB2.out⟩
theorem all_22 (pv : Addr) (w0 W : World) (g mb ob : Nat) (t : ByteArray) (A : Option Addr) (l : List S33) (c : Nat) (hV : Vw w0 W g mb ob t A l c) (op : Int) (q : S33 → Bool)
    (hQ : ∀ x, x ∈ l → ∀ vs, IVals x vs → ∀ W', Below W.heap.size W W' → Calls Try.prog 22 #[.agg vs, .pointer (some pv)] W' fun e w' => e = .returned (.bool (q x)) ∧ Below W'.heap.size W' w') :
    Calls Try.prog 21 #[.pointer (some ⟨g, 0, none⟩), .int .i64 op, (.func (.func 22) #[] #[.pointer (some pv)])] W fun e w' => e = .returned (.bool (!(l.any fun x => x.f0 == op && !q x))) ∧ Below W.heap.size W w' := by
  have hb1 := Below.alloc (Below.refl W.heap.size W) (Nat.le_refl _) (.cells #[.int .i64 op] 3)
  have hb := Below.alloc hb1 (below_size hb1) (.cells #[(.func (.func 22) #[] #[.pointer (some pv)])] 50)
  have hV2 := hV.step hb
  have hs : (W.alloc (.cells #[.int .i64 op] 3)).heap.size = W.heap.size + 1 := by simp
  have k4 : ((W.alloc (.cells #[.int .i64 op] 3)).alloc (.cells #[(.func (.func 22) #[] #[.pointer (some pv)])] 50)).cell? ⟨W.heap.size, 0, none⟩ = some (.int .i64 op) :=
    (blk_cell (blk_alloc (heap_alloc_new W _) _) 0).trans rfl
  have k5 : ((W.alloc (.cells #[.int .i64 op] 3)).alloc (.cells #[(.func (.func 22) #[] #[.pointer (some pv)])] 50)).cell? ⟨W.heap.size + 1, 0, none⟩ = some (.func (.func 22) #[] #[.pointer (some pv)]) := by
    have := heap_alloc_new (W.alloc (.cells #[.int .i64 op] 3)) (.cells #[(.func (.func 22) #[] #[.pointer (some pv)])] 50)
    rw [hs] at this
    exact (blk_cell this 0).trans rfl
  have HC := Aside0.mk (containsFunc_36 ⟨W.heap.size, 0, none⟩ ⟨W.heap.size + 1, 0, none⟩ (fun x => x.f0 == op && !q x) A c l w0 _ hV.len hV.row hV2.bel (fun x hx vs hv W' hW' =>
    all1_22 pv x vs hv _ _ op (q x) W' ((hW'.cell (World.block_lt_of_cell? _ _ k4)).trans k4) ((hW'.cell (World.block_lt_of_cell? _ _ k5)).trans k5) (fun W2 hW2 => hQ x hx vs hv W2 (below_step (below_step hb hW') hW2))))
  have v0 := hV2.c0
  have v1 := hV2.c1
  have v2 := hV2.c2
  have v3 := hV2.c3
  have hmf := mkf
  have HB := Aside0.mk hb
  clear hV hV2 hQ k4 k5 hb hb1 hs
  go_enter Try.func21, Try.ntmps21
  go_wp2_with (first | (go_at_call 26; (with_reducible refine (HC.out).mono ?_); rintro e w2 ⟨rfl, hb2⟩; have HB2 := Aside0.mk (below_step HB.out hb2); clear hb2))
  go_ret
  exact ⟨rfl, HB2.out⟩
/-- How many instructions have one of some operations. -/
def cntO (ops : List Int) (l : List S33) : Nat := l.countP fun x => ops.any fun y => x.f0 == y
theorem count_calls (w0 W : World) (g mb ob : Nat) (t : ByteArray) (A : Option Addr) (l : List S33) (c : Nat) (hV : Vw w0 W g mb ob t A l c) (B : Option Addr) (ops : List Int) (ho : ops.length ≤ 100000000000) (hO : Kd.C (Kd.int .i64) W B ops.length ops) :
    Calls Try.prog 23 #[.pointer (some ⟨g, 0, none⟩), .slice B ops.length ops.length] W fun e w' => e = .returned (.int .i64 (cntO ops l)) ∧ Below W.heap.size W w' := by
  have v0 := hV.c0
  have v1 := hV.c1
  have HV := Aside0.mk hV
  have HO := Aside0.mk hO
  have HL := Aside0.mk ho
  obtain ⟨R, hR⟩ : ∃ R : Nat, cntO ops l = R := ⟨_, rfl⟩
  rw [hR]
  have HR := Aside0.mk hR
  clear hV hO ho hR
  go_enter Try.func23, Try.ntmps23
  go_wp2
  clear v0 v1
  go_loopg [4, 13] l.length (fun kq v4 v13 w' => ∃ (i : Int) (n : Nat), v4 = .int .i64 n ∧ v13 = .int .i64 i ∧ Aside0 (0 ≤ i ∧ i ≤ l.length ∧ (kq : Int) = l.length - i ∧ (n : Int) ≤ i) ∧ Aside0 (n + cntO ops (l.drop i.toNat) = R) ∧ Aside0 (Below W.heap.size W w'))
  case atStart => exact ⟨0, 0, rfl, rfl, ⟨by omega, by omega, by omega, by omega⟩, ⟨by rw [Nat.zero_add]; exact HR.out⟩, ⟨Below.refl _ _⟩⟩
  case round =>
    clear HR
    obtain ⟨i, n, rfl, rfl, HI, HA, HW⟩ := hrel
    obtain ⟨h0, h1, h2, h3⟩ := HI.out
    by_cases hlt : i < l.length
    · obtain ⟨ad, A7, A8, A11, A13, c7, c8, c11, c13, e, x0, x1, x2, x3, x4, x5, x6, x7, x8, x9, x10, x11, x12, x13⟩ := elem_at HV.out.row (below_step HV.out.bel HW.out) i h0 hlt
      cases e
      have q0 := eq_true h0
      have q1 := eq_true hlt
      have b1 : decide (i < (l.length : Int)) = true := decide_eq_true hlt
      have ha := HA.out
      rw [rd33_drop l i h0 hlt, cntO, List.countP_cons] at ha
      obtain ⟨y, hy⟩ : ∃ y, rd_T33 l i = y := ⟨_, rfl⟩
      rw [hy] at ha x0 x1 x2 x3 x4 x5 x6 x7 x8 x9 x10 x11 x12 x13
      have HD := Aside0.mk hlt
      have hbx := below_step HW.out (Below.alloc (Below.refl wr.heap.size wr) (Nat.le_refl _) (.cells (iv y A7 A8 A11 A13 c7 c8 c11 c13) 33))
      have HK := Aside0.mk (contains_calls B ops.length ops y.f0 _ HL.out (Kd.C_below HO.out hbx))
      have HB := Aside0.mk hbx
      clear HA h1 h2 h3 hy hbx
      cases hc : (ops.any fun z => y.f0 == z)
      · rw [hc] at ha
        have HA2 := Aside0.mk ha
        clear hlt h0 ha
        go_wp2_with (first | (go_at_call 37; (with_reducible refine (HK.out).mono ?_); rintro e w2 ⟨rfl, rfl⟩; rw [hc]))
        go_roundg (l.length - i.toNat - 1)
        case measure => obtain ⟨h0, h1, h2, h3⟩ := HI.out; have := HD.out; omega
        case rel =>
          obtain ⟨h0, h1, h2, h3⟩ := HI.out
          have hl := HV.out.len
          have hd := HD.out
          refine ⟨i + 1, n, rfl, ?_, ⟨by omega, by omega, by omega, by omega⟩, ⟨?_⟩, ⟨HB.out⟩⟩
          · rw [w64i i h0 (by omega)]
          · have := HA2.out
            rw [show (i + 1).toNat = i.toNat + 1 by omega]
            simpa [cntO] using this
      · rw [hc] at ha
        have HA2 := Aside0.mk ha
        clear hlt h0 ha
        go_wp2_with (first | (go_at_call 37; (with_reducible refine (HK.out).mono ?_); rintro e w2 ⟨rfl, rfl⟩; rw [hc]))
        go_roundg (l.length - i.toNat - 1)
        case measure => obtain ⟨h0, h1, h2, h3⟩ := HI.out; have := HD.out; omega
        case rel =>
          obtain ⟨h0, h1, h2, h3⟩ := HI.out
          have hl := HV.out.len
          have hd := HD.out
          refine ⟨i + 1, n + 1, ?_, ?_, ⟨by omega, by omega, by omega, by omega⟩, ⟨?_⟩, ⟨HB.out⟩⟩
          · rw [w64i (n : Int) (by omega) (by omega)]; rfl
          · rw [w64i i h0 (by omega)]
          · have := HA2.out
            simp only [if_true] at this
            rw [show (i + 1).toNat = i.toNat + 1 by omega]
            unfold cntO
            omega
    · have b1 : decide (i < (l.length : Int)) = false := decide_eq_false hlt
      have ha := HA.out
      rw [List.drop_of_length_le (by omega)] at ha
      have ha' : n = R := by simpa [cntO] using ha
      subst ha'
      clear ha HA h1 h2 h3 hlt h0
      go_wp2
      go_ret
      exact ⟨rfl, HW.out⟩
end Go.Proofs.Ytfnmploaklboiaa
