import Derived.Test.YtfnmploaklboiaaZtC7
import Derived.RegionTactic
import Derived.ChangeAlike
/- cover: the cursors' map; what reads asks of each InNext. -/
namespace Go.Proofs.Ytfnmploaklboiaa
open Go.RowKit Go.Proofs.YtfnmploaklboiaaW.PrintWords A
set_option linter.unusedSimpArgs false
set_option linter.unusedVariables false
/-- The last InOpen of a cursor. -/
def openF (l : List S33) (c : Int) : Option S33 := l.foldl (fun o x => if x.f0 = 2 ∧ x.f1 = c then some x else o) none
theorem openF_snoc (l : List S33) (x : S33) (c : Int) : openF (l ++ [x]) c = if x.f0 = 2 ∧ x.f1 = c then some x else openF l c := by
  unfold openF
  rw [List.foldl_append]
  rfl
/-- The map of the cursors, as the first k instructions have made it. -/
def OpenM (w : World) (ob : Nat) (l : List S33) (k : Nat) : Prop := ∃ F n, MapF 3 w ob n F ∧ n ≤ k ∧ ∀ c, match openF (l.take k) c with
  | none => F (keyI c) = none
  | some x => ∃ vs, IVals x vs ∧ F (keyI c) = some (.agg vs)
theorem OpenM.blk {w w' : World} {ob : Nat} {l : List S33} {k : Nat} (h : OpenM w ob l k) (hb : w'.heap[ob]? = w.heap[ob]?) : OpenM w' ob l k := by
  obtain ⟨F, n, m1, m2, m3⟩ := h
  exact ⟨F, n, m1.blk hb, m2, m3⟩
theorem OpenM.lt {w : World} {ob : Nat} {l : List S33} {k : Nat} (h : OpenM w ob l k) : ob < w.heap.size := by
  obtain ⟨F, n, m1, m2, m3⟩ := h
  exact m1.lt
/-- What the look-up answers, in every world that has the map as it is. -/
theorem OpenM.look {w : World} {ob : Nat} {l : List S33} {k : Nat} (h : OpenM w ob l k) (c : Int) (hc : -9223372036854775808 ≤ c ∧ c < 9223372036854775808) : ∃ z A7 A8 A11 A13 c7 c8 c11 c13,
    (∀ w' : World, w'.heap[ob]? = w.heap[ob]? → (Instr.lookup 38 (.map (some ob)) (.int .i64 c) true).run Try.prog w' = .ok (.tuple #[.agg (iv z A7 A8 A11 A13 c7 c8 c11 c13), .bool (openF (l.take k) c).isSome]) w') ∧ ∀ x, openF (l.take k) c = some x → z = x := by
  obtain ⟨F, n, m1, m2, m3⟩ := h
  have hl : ∀ w' : World, w'.heap[ob]? = w.heap[ob]? → (Instr.lookup 38 (.map (some ob)) (.int .i64 c) true).run Try.prog w' = _ := fun w' hw => (m1.blk hw).look_ok keyedI und38 (zero33 w') (isKeyI c) (keyOfI c hc)
  have m := m3 c
  cases ho : openF (l.take k) c with
  | none =>
    rw [ho] at m
    have m' : F (keyI c) = none := m
    rw [m'] at hl
    exact ⟨⟨0, 0, 0, 0, 0, ⟨#[]⟩, 0, [], [], false, false, [], 0, []⟩, none, none, none, none, 0, 0, 0, 0, hl, fun x hx => by cases hx⟩
  | some x =>
    rw [ho] at m
    obtain ⟨vs, ⟨A7, A8, A11, A13, c7, c8, c11, c13, rfl⟩, m'⟩ := m
    rw [m'] at hl
    exact ⟨x, A7, A8, A11, A13, c7, c8, c11, c13, hl, fun y hy => by injection hy⟩
abbrev zero33c : Obj := .cells #[.int .i64 0, .int .i64 0, .int .i64 0, .int .i64 0, .int .i64 0, .string ⟨#[]⟩, .int .i64 0, .slice none 0 0, .slice none 0 0, .bool false, .bool false, .slice none 0 0, .int .i64 0, .slice none 0 0] 33
/-- What reads asks of an InNext. -/
def nxB (l : List S33) (x : S33) : Bool := match openF l x.f1 with
  | none => false
  | some z => decide (z.f6 < 0) || (cov x.f3 3 && cov x.f4 3)
set_option maxHeartbeats 4000000 in
set_option maxRecDepth 100000 in
theorem reads1_calls (x : S33) (vs : Array Value) (hv : IVals x vs) (hr : -9223372036854775808 ≤ x.f1 ∧ x.f1 < 9223372036854775808) (W : World) (pv : Addr) (g mb ob : Nat) (t : ByteArray) (A : Option Addr) (l : List S33) (c : Nat)
    (hp : W.cell? pv = some (.pointer (some ⟨g, 0, none⟩))) (hb : W.heap[g]? = some (.cells #[.string t, .slice A l.length c, .map (some mb), .map (some ob)] 40 (0, 0))) (hO : OpenM W ob l l.length) :
    Calls Try.prog 22 #[.agg vs, .pointer (some pv)] W fun e w' => e = .returned (.bool (nxB l x)) ∧ Below W.heap.size W w' := by
  obtain ⟨A7, A8, A11, A13, c7, c8, c11, c13, rfl⟩ := hv
  have hn := Below.alloc (Below.refl W.heap.size W) (Nat.le_refl _) (.cells (iv x A7 A8 A11 A13 c7 c8 c11 c13) 33)
  have hbx := heap_alloc_new W (.cells (iv x A7 A8 A11 A13 c7 c8 c11 c13) 33)
  have hO1 := hO.blk (hn.block ob hO.lt)
  obtain ⟨z, B7, B8, B11, B13, d7, d8, d11, d13, hl, hz⟩ := hO1.look x.f1 hr
  rw [List.take_length] at hl hz
  have HZ := Aside0.mk hz
  have HN := Aside0.mk hn
  have y0 := (hn.cell (World.block_lt_of_cell? W _ hp)).trans hp
  have y1 : (W.alloc (.cells (iv x A7 A8 A11 A13 c7 c8 c11 c13) 33)).cell? ⟨g, 3, none⟩ = some (.map (some ob)) := (blk_cell ((hn.block g (blk_lt hb)).trans hb) 3).trans rfl
  have y2 : (W.alloc (.cells (iv x A7 A8 A11 A13 c7 c8 c11 c13) 33)).cell? ⟨W.heap.size, 1, none⟩ = some (.int .i64 x.f1) := (blk_cell hbx 1).trans rfl
  have y3 : (W.alloc (.cells (iv x A7 A8 A11 A13 c7 c8 c11 c13) 33)).cell? ⟨W.heap.size, 3, none⟩ = some (.int .i64 x.f3) := (blk_cell hbx 3).trans rfl
  have y4 : (W.alloc (.cells (iv x A7 A8 A11 A13 c7 c8 c11 c13) 33)).cell? ⟨W.heap.size, 4, none⟩ = some (.int .i64 x.f4) := (blk_cell hbx 4).trans rfl
  have HO1 := Aside0.mk hO1
  have HT := Aside0.mk hl
  clear hn hbx hz hp hb hO hO1 hl
  go_enter Try.func22, Try.ntmps22
  go_wp2
  generalize W.alloc (.cells (iv x A7 A8 A11 A13 c7 c8 c11 c13) 33) = W1 at HT HN HO1 y0 y1 y2 y3 y4 ⊢
  obtain ⟨ok, hok⟩ : ∃ ok, (openF l x.f1).isSome = ok := ⟨_, rfl⟩
  have hl := HT.out
  rw [hok] at hl
  have hoblt := HO1.out.lt
  have hz0 := Below.alloc (Below.refl W1.heap.size W1) (Nat.le_refl _) zero33c
  have T : ∀ {a : Addr} {v : Value}, W1.cell? a = some v → (W1.alloc zero33c).cell? a = some v := fun h => (hz0.cell (World.block_lt_of_cell? _ _ h)).trans h
  have t0 := T y0
  have t1 := T y1
  have t2 := T y2
  have l1 := hl W1.drew rfl
  have l3 := hl (W1.alloc zero33c).drew (hz0.block ob hoblt)
  clear T hz0 hl hoblt
  have hn2 := Below.alloc (Below.refl W1.heap.size W1) (Nat.le_refl _) (.cells (iv z B7 B8 B11 B13 d7 d8 d11 d13) 33)
  have hb2 := heap_alloc_new W1 (.cells (iv z B7 B8 B11 B13 d7 d8 d11 d13) 33)
  have r3 : (W1.alloc (.cells (iv z B7 B8 B11 B13 d7 d8 d11 d13) 33)).drew.cell? ⟨W.heap.size, 3, none⟩ = some (.int .i64 x.f3) := (hn2.cell (World.block_lt_of_cell? _ _ y3)).trans y3
  have r4 : (W1.alloc (.cells (iv z B7 B8 B11 B13 d7 d8 d11 d13) 33)).drew.cell? ⟨W.heap.size, 4, none⟩ = some (.int .i64 x.f4) := (hn2.cell (World.block_lt_of_cell? _ _ y4)).trans y4
  have r6 : (W1.alloc (.cells (iv z B7 B8 B11 B13 d7 d8 d11 d13) 33)).drew.cell? ⟨W1.heap.size, 6, none⟩ = some (.int .i64 z.f6) := (blk_cell hb2 6).trans rfl
  have HB2 := Aside0.mk (below_drew (below_step HN.out hn2))
  have HOK := Aside0.mk hok
  clear hn2 hb2 y3 y4 hok
  go_region
  all_goals
    clear t0 t1 t2 l1 l3 y0 y1 y2
    generalize (W1.alloc (.cells (iv z B7 B8 B11 B13 d7 d8 d11 d13) 33)).drew = W2 at r3 r4 r6 HB2 ⊢
    cases ok
    · have hnx : nxB l x = false := by
        unfold nxB
        cases ho : openF l x.f1 with
        | none => rfl
        | some u => have := HOK.out; rw [ho] at this; cases this
      have HNX := Aside0.mk hnx
      clear hnx
      go_wp2
      go_ret
      exact ⟨ret_bool (by rw [HNX.out]), HB2.out⟩
    · have hnx : nxB l x = (decide (z.f6 < 0) || (cov x.f3 3 && cov x.f4 3)) := by
        unfold nxB
        cases ho : openF l x.f1 with
        | none => have := HOK.out; rw [ho] at this; cases this
        | some u => rw [HZ.out u ho]
      have HNX := Aside0.mk hnx
      clear hnx
      cases hz6 : decide (z.f6 < 0)
      · cases hc3 : cov x.f3 3
        · go_wp2_with (first | (go_at_call 20; (with_reducible refine (covers_calls _ _ _).mono ?_); rintro e w' ⟨rfl, rfl⟩; (try rw [hc3])))
          go_ret
          exact ⟨ret_bool (by rw [HNX.out, hz6, hc3]; rfl), HB2.out⟩
        · go_wp2_with (first | (go_at_call 20; (with_reducible refine (covers_calls _ _ _).mono ?_); rintro e w' ⟨rfl, rfl⟩; (try rw [hc3])))
          go_ret
          exact ⟨ret_bool (by rw [HNX.out, hz6, hc3]; rfl), HB2.out⟩
      · go_wp2
        go_ret
        exact ⟨ret_bool (by rw [HNX.out, hz6]; rfl), HB2.out⟩
end Go.Proofs.Ytfnmploaklboiaa
