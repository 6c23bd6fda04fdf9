import Derived.Test.YtfnmploaklboiaaZtC10
import Derived.Carry
/- cover: Check. -/
namespace Go.Proofs.Ytfnmploaklboiaa
open Go.RowKit Go.Proofs.YtfnmploaklboiaaW.PrintWords A
set_option linter.unusedSimpArgs false
set_option linter.unusedVariables false
def ckB (t : ByteArray) (l : List S33) : Bool := shapeB l && (lkB true l && (readsB (modeF l) l && chB (modeF l) t l))
/-- What has been found behind k rules. -/
def Ik (w W : World) (g mb ob sb : Nat) (t : ByteArray) (A : Option Addr) (l : List S33) (c : Nat) (R : Bool) (k : Nat) : Prop :=
  Vw w W g mb ob t A l c ∧ W.heap[sb]? = some (.cells #[.func (.func 11) #[] #[], .func (.func 12) #[] #[], .func (.func 13) #[] #[], .func (.func 14) #[] #[]] 41 (0, 0)) ∧
  (match k with
   | 0 => MapF 9 W mb 0 (fun _ => none) ∧ MapF 3 W ob 0 (fun _ => none) ∧ ckB t l = R
   | 1 => MapF 9 W mb 0 (fun _ => none) ∧ MapF 3 W ob 0 (fun _ => none) ∧ shapeB l = true ∧ (lkB true l && (readsB (modeF l) l && chB (modeF l) t l)) = R
   | 2 => ModeM W mb l l.length ∧ MapF 3 W ob 0 (fun _ => none) ∧ shapeB l = true ∧ (readsB (modeF l) l && chB (modeF l) t l) = R
   | 3 => ModeM W mb l l.length ∧ OpenM W ob l l.length ∧ shapeB l = true ∧ chB (modeF l) t l = R
   | _ => R = true)
theorem Vw.of {w0 W W1 : World} {g mb ob : Nat} {t : ByteArray} {A : Option Addr} {l : List S33} {c : Nat} {b : Nat} (h : Vw w0 W g mb ob t A l c) (hg : W.grownBy W1 (some b)) (hne : g ≠ b) (hb : w0.heap.size ≤ b) : Vw w0 W1 g mb ob t A l c :=
  ⟨(hg.block g (blk_lt h.blk) (by intro e; injection e with e; exact hne e)).trans h.blk, h.row, below_grown h.bel hg hb h.bel.size, h.len⟩
theorem grown_blk {W W1 : World} {b k : Nat} (hg : W.grownBy W1 (some b)) (hk : k < W.heap.size) (hne : k ≠ b) : W1.heap[k]? = W.heap[k]? := hg.block k hk (by intro e; injection e with e; exact hne e)
set_option maxHeartbeats 8000000 in
set_option maxRecDepth 100000 in
theorem check_calls (w : World) (t : ByteArray) (A : Option Addr) (l : List S33) (c : Nat) (hC : Kd.C k33 w A l.length l) (hcap : l.length ≤ c) (hlen : l.length ≤ 100000000000000) (hts : t.size ≤ maxLen)
    (hs : ∀ x ∈ l, x.f5.size ≤ maxLen ∧ -9223372036854775808 ≤ x.f1 ∧ x.f1 < 9223372036854775808) :
    Calls Try.prog 8 #[.agg #[.string t, .slice A l.length c]] w fun e w' => e = .returned (.int .i64 (if ckB t l = true then 0 else 240)) ∧ Below w.heap.size w w' := by
  have hmm := @run_makeMap Try.prog
  obtain ⟨R, hR⟩ : ∃ R, ckB t l = R := ⟨_, rfl⟩
  rw [hR]
  have b1 := Below.alloc (Below.refl w.heap.size w) (Nat.le_refl _) (.cells #[.string t, .slice A l.length c] 25)
  have s1 : (w.alloc (.cells #[.string t, .slice A l.length c] 25)).heap.size = w.heap.size + 1 := by simp
  have m1 := MapF.made 9 (w.alloc (.cells #[.string t, .slice A l.length c] 25))
  rw [s1] at m1
  generalize w.alloc (.cells #[.string t, .slice A l.length c] 25) = w1 at b1 s1 m1
  have I0 : Aside0 (∀ w1, w1.heap.size = w.heap.size + 1 → Below w.heap.size w w1 → Ik w ((((w1.alloc (.map #[] 0)).alloc (.map #[] 0)).alloc (.cells #[.string t, .slice A l.length c, .map (some (w.heap.size + 1)), .map (some (w.heap.size + 1 + 1))] 40)).alloc
      (.cells #[.func (.func 11) #[] #[], .func (.func 12) #[] #[], .func (.func 13) #[] #[], .func (.func 14) #[] #[]] 41)) (w.heap.size + 1 + 1 + 1) (w.heap.size + 1) (w.heap.size + 1 + 1) (w.heap.size + 1 + 1 + 1 + 1) t A l c R 0) := ⟨fun w1 s1 b1 => by
    have m1 := MapF.made 9 w1
    rw [s1] at m1
    have s2 : (w1.alloc (.map #[] 0)).heap.size = w.heap.size + 1 + 1 := by simp [s1]
    have m2 := MapF.made 3 (w1.alloc (.map #[] 0))
    rw [s2] at m2
    have s3 : ((w1.alloc (.map #[] 0)).alloc (.map #[] 0)).heap.size = w.heap.size + 1 + 1 + 1 := by simp [s1]
    have v3 := heap_alloc_new ((w1.alloc (.map #[] 0)).alloc (.map #[] 0)) (.cells #[.string t, .slice A l.length c, .map (some (w.heap.size + 1)), .map (some (w.heap.size + 1 + 1))] 40)
    rw [s3] at v3
    have s4 : (((w1.alloc (.map #[] 0)).alloc (.map #[] 0)).alloc (.cells #[.string t, .slice A l.length c, .map (some (w.heap.size + 1)), .map (some (w.heap.size + 1 + 1))] 40)).heap.size = w.heap.size + 1 + 1 + 1 + 1 := by simp [s1]
    have v4 := heap_alloc_new (((w1.alloc (.map #[] 0)).alloc (.map #[] 0)).alloc (.cells #[.string t, .slice A l.length c, .map (some (w.heap.size + 1)), .map (some (w.heap.size + 1 + 1))] 40)) (.cells #[.func (.func 11) #[] #[], .func (.func 12) #[] #[], .func (.func 13) #[] #[], .func (.func 14) #[] #[]] 41)
    rw [s4] at v4
    refine ⟨⟨blk_alloc v3 _, hC, ?_, hlen⟩, v4, ?_, ?_, hR⟩
    · exact below_alloc (below_alloc (below_alloc (below_alloc b1 _) _) _) _
    · exact ((m1.kept (World.grownBy_alloc _ _ none) (by simp)).kept (World.grownBy_alloc _ _ none) (by simp)).kept (World.grownBy_alloc _ _ none) (by simp)
    · exact (m2.kept (World.grownBy_alloc _ _ none) (by simp)).kept (World.grownBy_alloc _ _ none) (by simp)⟩
  have HI0 := Aside0.mk (I0.out (w.alloc (.cells #[.string t, .slice A l.length c] 25)) (by simp) (Below.alloc (Below.refl w.heap.size w) (Nat.le_refl _) _))
  have HX := Aside0.mk (And.intro hcap (And.intro hts hs))
  clear b1 s1 m1 w1 I0 hC hcap hlen hts hs hR
  go_enter Try.func8, Try.ntmps8
  go_wp2
  generalize ((((w.alloc (.cells #[.string t, .slice A l.length c] 25)).alloc (.map #[] 0)).alloc (.map #[] 0)).alloc (.cells #[.string t, .slice A l.length c, .map (some (w.heap.size + 1)), .map (some (w.heap.size + 1 + 1))] 40)).alloc
      (.cells #[.func (.func 11) #[] #[], .func (.func 12) #[] #[], .func (.func 13) #[] #[], .func (.func 14) #[] #[]] 41) = W0 at HI0 ⊢
  obtain ⟨mb, hmb⟩ : ∃ mb, w.heap.size + 1 = mb := ⟨_, rfl⟩
  obtain ⟨ob, hob⟩ : ∃ ob, w.heap.size + 1 + 1 = ob := ⟨_, rfl⟩
  obtain ⟨g, hg⟩ : ∃ g, w.heap.size + 1 + 1 + 1 = g := ⟨_, rfl⟩
  obtain ⟨sb, hsb⟩ : ∃ sb, w.heap.size + 1 + 1 + 1 + 1 = sb := ⟨_, rfl⟩
  have HN : Aside0 (w.heap.size < mb ∧ mb < ob ∧ ob < g ∧ g < sb) := ⟨⟨by omega, by omega, by omega, by omega⟩⟩
  rw [hsb, hg, hob, hmb] at HI0
  rw [hsb, hg, hob, hmb]
  clear hmb hob hg hsb hmm
  go_loopg [13] 4 (fun kq v13 w' => ∃ k : Nat, v13 = .int .i64 k ∧ Aside0 (k ≤ 4 ∧ kq = 4 - k) ∧ Aside0 (Ik w w' g mb ob sb t A l c R k))
  case atStart => exact ⟨0, rfl, ⟨by omega, by omega⟩, HI0⟩
  case round =>
    clear HI0
    obtain ⟨k, rfl, HK, HI⟩ := hrel
    obtain ⟨hV, hsl, hk⟩ := HI.out
    have hk5 : k = 0 ∨ k = 1 ∨ k = 2 ∨ k = 3 ∨ k = 4 := by have := HK.out; omega
    have HV := Aside0.mk hV
    have HSL := Aside0.mk hsl
    have f0 : wr.cell? ⟨sb, 0, none⟩ = some (.func (.func 11) #[] #[]) := (blk_cell hsl 0).trans rfl
    have f1 : wr.cell? ⟨sb, 1, none⟩ = some (.func (.func 12) #[] #[]) := (blk_cell hsl 1).trans rfl
    have f2 : wr.cell? ⟨sb, 2, none⟩ = some (.func (.func 13) #[] #[]) := (blk_cell hsl 2).trans rfl
    have f3 : wr.cell? ⟨sb, 3, none⟩ = some (.func (.func 14) #[] #[]) := (blk_cell hsl 3).trans rfl
    clear HI hV hsl
    rcases hk5 with rfl | rfl | rfl | rfl | rfl
    · obtain ⟨k1, k2, k3⟩ := hk
      have HKK := Aside0.mk (And.intro k1 (And.intro k2 k3))
      have HC := Aside0.mk (shape_calls w wr g mb ob t A l c HV.out)
      clear k1 k2 k3
      cases hsh : shapeB l
      · rw [hsh] at HC
        have hR : R = false := by rw [← HKK.out.2.2, ckB, hsh, Bool.false_and]
        subst hR
        clear hsh
        go_wp2_with (first | (go_at_call 11; (with_reducible refine (HC.out).mono ?_); rintro e w2 ⟨rfl, hb⟩; have HB2 := Aside0.mk (below_step HV.out.bel hb); clear hb))
        go_ret
        exact ⟨ret_int rfl, HB2.out⟩
      · rw [hsh] at HC
        have HSH := Aside0.mk hsh
        clear hsh
        go_wp2_with (first | (go_at_call 11; (with_reducible refine (HC.out).mono ?_); rintro e w2 ⟨rfl, hb⟩; have HB2 := Aside0.mk hb; clear hb))
        go_roundg 3
        case measure => have := HK.out; omega
        case rel =>
          have hb := HB2.out
          obtain ⟨k1, k2, k3⟩ := HKK.out
          refine ⟨1, rfl, ⟨by omega, by omega⟩, ⟨HV.out.step hb, (hb.block sb (blk_lt HSL.out)).trans HSL.out, k1.blk (hb.block mb k1.lt), k2.blk (hb.block ob k2.lt), HSH.out, ?_⟩⟩
          rw [← k3, ckB, HSH.out, Bool.true_and]
    · obtain ⟨k1, k2, k3, k4⟩ := hk
      have HKK := Aside0.mk (And.intro k1 (And.intro k2 (And.intro k3 k4)))
      have HC := Aside0.mk (locks_calls w wr g mb ob t A l c HV.out (fun x hx => (HX.out.2.2 x hx).1) k1 (by have := HN.out; omega) (by have := HN.out; omega))
      clear k1 k2 k3 k4
      cases hsh : lkB true l
      · rw [hsh] at HC
        have hR : R = false := by rw [← HKK.out.2.2.2, hsh, Bool.false_and]
        subst hR
        clear hsh
        go_wp2_with (first | (go_at_call 12; (with_reducible refine (HC.out).mono ?_); rintro e w2 ⟨rfl, hb, _⟩; have HB2 := Aside0.mk (below_grown HV.out.bel hb (by have := HN.out; omega) HV.out.bel.size); clear hb))
        go_ret
        exact ⟨ret_int rfl, HB2.out⟩
      · rw [hsh] at HC
        have HSH := Aside0.mk hsh
        clear hsh
        go_wp2_with (first | (go_at_call 12; (with_reducible refine (HC.out).mono ?_); rintro e w2 ⟨rfl, hb, hm⟩; have HB2 := Aside0.mk (And.intro hb (hm rfl)); clear hb hm))
        go_roundg 2
        case measure => have := HK.out; omega
        case rel =>
          obtain ⟨hb, hm⟩ := HB2.out
          obtain ⟨k1, k2, k3, k4⟩ := HKK.out
          refine ⟨2, rfl, ⟨by omega, by omega⟩, ⟨HV.out.of hb (by have := HN.out; omega) (by have := HN.out; omega), (grown_blk hb (blk_lt HSL.out) (by have := HN.out; omega)).trans HSL.out, hm, k2.blk (grown_blk hb k2.lt (by have := HN.out; omega)), k3, ?_⟩⟩
          rw [← k4, HSH.out, Bool.true_and]
    · obtain ⟨k1, k2, k3, k4⟩ := hk
      have HKK := Aside0.mk (And.intro k1 (And.intro k2 (And.intro k3 k4)))
      have HC := Aside0.mk (reads_calls w wr g mb ob t A l c HV.out HX.out.2.2 k1 ⟨_, 0, k2, Nat.le_refl _, fun c => by rw [List.take_zero]; rfl⟩ (by have := HN.out; omega) (by have := HN.out; omega))
      clear k1 k2 k3 k4
      cases hsh : readsB (modeF l) l
      · rw [hsh] at HC
        have hR : R = false := by rw [← HKK.out.2.2.2, hsh, Bool.false_and]
        subst hR
        clear hsh
        go_wp2_with (first | (go_at_call 13; (with_reducible refine (HC.out).mono ?_); rintro e w2 ⟨rfl, hb, _⟩; have HB2 := Aside0.mk (below_grown HV.out.bel hb (by have := HN.out; omega) HV.out.bel.size); clear hb))
        go_ret
        exact ⟨ret_int rfl, HB2.out⟩
      · rw [hsh] at HC
        have HSH := Aside0.mk hsh
        clear hsh
        go_wp2_with (first | (go_at_call 13; (with_reducible refine (HC.out).mono ?_); rintro e w2 ⟨rfl, hb, hm⟩; have HB2 := Aside0.mk (And.intro hb (hm rfl)); clear hb hm))
        go_roundg 1
        case measure => have := HK.out; omega
        case rel =>
          obtain ⟨hb, hm⟩ := HB2.out
          obtain ⟨k1, k2, k3, k4⟩ := HKK.out
          refine ⟨3, rfl, ⟨by omega, by omega⟩, ⟨HV.out.of hb (by have := HN.out; omega) (by have := HN.out; omega), (grown_blk hb (blk_lt HSL.out) (by have := HN.out; omega)).trans HSL.out, k1.blk (grown_blk hb k1.lt (by have := HN.out; omega)), hm, k3, ?_⟩⟩
          rw [← k4, HSH.out, Bool.true_and]
    · obtain ⟨k1, k2, k3, k4⟩ := hk
      have hsp : (1 ≤ l.length ∧ (rd_T33 l ((l.length : Int) - 1)).f0 = 12) := by
        unfold shapeB at k3
        rw [Bool.and_eq_true, Bool.not_eq_true', Bool.or_eq_false_iff, Bool.or_eq_false_iff, decide_eq_false_iff_not] at k3
        exact ⟨by omega, bne_eq_false_iff_eq.1 k3.1.2⟩
      have HC := Aside0.mk (changes_calls w wr g mb ob t A l c HV.out HX.out.2.1 hsp.2 hsp.1 HX.out.1 k1 k2)
      rw [k4] at HC
      clear k1 k2 k3 k4 hsp
      cases R
      · go_wp2_with (first | (go_at_call 14; (with_reducible refine (HC.out).mono ?_); rintro e w2 ⟨rfl, hb⟩; have HB2 := Aside0.mk (below_step HV.out.bel hb); clear hb))
        go_ret
        exact ⟨ret_int rfl, HB2.out⟩
      · go_wp2_with (first | (go_at_call 14; (with_reducible refine (HC.out).mono ?_); rintro e w2 ⟨rfl, hb⟩; have HB2 := Aside0.mk hb; clear hb))
        go_roundg 0
        case measure => have := HK.out; omega
        case rel =>
          have hb := HB2.out
          exact ⟨4, rfl, ⟨by omega, by omega⟩, ⟨HV.out.step hb, (hb.block sb (blk_lt HSL.out)).trans HSL.out, rfl⟩⟩
    · have hR : R = true := hk
      subst hR
      clear hk
      go_wp2
      go_ret
      exact ⟨ret_int rfl, HV.out.bel⟩
end Go.Proofs.Ytfnmploaklboiaa
