import Derived.Test.YtgbjilcfgpbcgaaZpH29
/- Layer 8: the reference's lay, walked. -/
namespace Go.Proofs.Ytgbjilcfgpbcgaa
open Go.RowKit Go.Proofs.YtgbjilcfgpbcgaaW.PrintWords Go.Proofs.YtgbjilcfgpbcgaaW.PrintLast Go.Proofs.YtgbjilcfgpbcgaaW.PrintMore
set_option linter.unusedSimpArgs false
set_option linter.unusedVariables false
theorem at51 {w : World} {A : Option Addr} {n : Nat} {xs : List S51} (h : Kd.C k51 w A n xs) (i : Nat) (h1 : i < n) : ∃ ad, A = some ad ∧ w.cell? (ad.add (i * 2)) = some (.int .i64 (idA xs i)) := by
  obtain ⟨ad, A1, c1, e, g0, _⟩ := Go.Proofs.Ytgbjilcfgpbcgaa.B.at_T51 h (i : Int) (by omega) (by omega)
  rw [Int.toNat_natCast, rd51] at g0
  exact ⟨ad, e, g0⟩
/-- The slots' row, when it is not empty. -/
theorem slots_form {w : World} {B : Nat} {O : Nat → Prop} {vs : Value} {sl : List S51} (h : k51.R 51 w B O vs sl) (h0 : 0 < sl.length) : ∃ b cap cur, vs = .slice (some ⟨b, 0, none⟩) sl.length cap ∧ O b ∧ w.heap[b]? = some (.cells cur 51 (0, 0)) ∧ sl.length * 2 ≤ cur.size := by
  obtain ⟨inner, hi, ho⟩ := Kd.R_own h
  rcases ho with ⟨_, h1⟩ | ⟨b, cap, cur, hv, h2, h3, h4, h5, h6, h7⟩
  · omega
  · refine ⟨b, cap, cur, hv, h.1 b (by rw [hv]; simp [Value.ownBlock]), h3, ?_⟩
    have : k51.sz = 2 := rfl
    rw [this] at h6
    omega
theorem own_bound {B : Nat} {w w' : World} {O : Nat → Prop} (ho : ∀ k, O k → B ≤ k ∧ k < w.heap.size) (hb : B ≤ w.heap.size) (hs : w.heap.size ≤ w'.heap.size) : ∀ k, grow O w w' k → B ≤ k ∧ k < w'.heap.size := fun k hk =>
  hk.elim (fun h => ⟨(ho k h).1, Nat.lt_of_lt_of_le (ho k h).2 hs⟩) fun h => ⟨Nat.le_trans hb h.1, h.2⟩
theorem old_grow {w w' : World} {O : Nat → Prop} : ∀ k, k < w.heap.size → grow O w w' k → O k := fun k hk h => h.elim (fun h => h) fun h => by omega
theorem lay_fin_put {B : Nat} {w W : World} {g : Nat} {sl : List S51} {la : Int} {O : Nat → Prop} {b n cap : Nat} (ha : RefAt B O w g sl la (.slice (some ⟨b, 0, none⟩) n cap)) (ho : ∀ k, O k → B ≤ k ∧ k < w.heap.size) (hb : B ≤ w.heap.size) (hbd : sl.length + 1 ≤ 4000000000000) (hbw : Below w.heap.size w W) (x : S51) {v : Value} (hv : kb.R 5 W w.heap.size (fun _ => True) v x.f1) (i : Nat) (hi : i < n) :
    Nr B w g O (sl.set i x) la ((W.setCell ⟨b, i * 2, none⟩ (.int .i64 x.f0)).setCell ⟨b, i * 2 + 1, none⟩ v) (grow O w ((W.setCell ⟨b, i * 2, none⟩ (.int .i64 x.f0)).setCell ⟨b, i * 2 + 1, none⟩ v)) := by
  have hOb : O b := ha.slots.1 b (by simp [Value.ownBlock])
  have hsl : k51.R 51 W B (fun k => O k ∨ w.heap.size ≤ k) (.slice (some ⟨b, 0, none⟩) n cap) sl := Kd.R_mono (Kd.R_below ha.slots hbw) fun _ h => .inl h
  obtain ⟨h1, h2⟩ := put51 (okp := fun k => w.heap.size ≤ k) hsl i hi x (Kd.R_lower (Kd.R_mono (Kd.R_bound hv) fun k hk => hk.2.1) hb) fun k hk => ⟨.inr hk, fun e => by have := (ho b hOb).2; omega⟩
  have hfr : Fr B O w ((W.setCell ⟨b, i * 2, none⟩ (.int .i64 x.f0)).setCell ⟨b, i * 2 + 1, none⟩ v) := (((Fr.refl B O w).below hbw hb).set (fun k hk => (ho k hk).1) hOb _ _).set (fun k hk => (ho k hk).1) hOb _ _
  have hbk : W.heap[g]? = _ := (hbw.block g (blk_lt ha.blk)).trans ha.blk
  have hbl := ha.slots
  obtain ⟨b', cap', cur, hv', _, hc', _⟩ := slots_form ha.slots (by have := (Kd.R_reads' ha.slots).1; omega)
  injection hv' with e1 _ _
  injection e1 with e1
  injection e1 with e1 _ _
  subst e1
  have hgb : g ≠ b := fun e => by have := ha.blk; rw [e, hc'] at this; injection this with this; injection this with _ t; exact absurd t (by decide)
  refine ⟨⟨⟨.slice (some ⟨b, 0, none⟩) n cap, ⟨?_, ⟨ha.own.1, .inl ha.own.2⟩, ?_⟩⟩, own_bound ho hb hfr.low.size, Nat.le_trans hb hfr.low.size, by rw [List.length_set]; omega⟩, hfr, old_grow⟩
  · exact (h2.block g (blk_lt hbk) (fun e => by injection e with e; exact hgb e)).trans hbk
  · exact Kd.R_mono (Kd.R_bound h1) fun k hk => hk.1.imp (fun h => h) fun h => ⟨h, hk.2.2.1⟩
theorem Nr.drew {B : Nat} {w W : World} {g : Nat} {sl : List S51} {la : Int} {O : Nat → Prop} (h : Nr B w g O sl la W (grow O w W)) (hb : B ≤ w.heap.size) : Nr B w g O sl la W.drew (grow O w W.drew) :=
  ⟨h.heap.below (below_drew (Below.refl W.heap.size W)), h.fr.below (below_drew (Below.refl W.heap.size W)) (Nat.le_trans hb h.fr.low.size), h.old⟩
theorem lay_fin_app {B : Nat} {w W w2 : World} {g : Nat} {sl sl' : List S51} {la : Int} {O : Nat → Prop} {vs v1 : Value} (ha : RefAt B O w g sl la vs) (ho : ∀ k, O k → B ≤ k ∧ k < w.heap.size) (hb : B ≤ w.heap.size) (hbd : sl'.length ≤ 4000000000000) (hbw : Below w.heap.size w W) (hr : k51.R 51 w2 B (fun k => O k ∨ w.heap.size ≤ k) v1 sl') (hg : W.grownBy w2 vs.ownBlock) :
    Nr B w g O sl' la (w2.setCell ⟨g, 0, none⟩ v1) (grow O w (w2.setCell ⟨g, 0, none⟩ v1)) := by
  have hbk : W.heap[g]? = _ := (hbw.block g (blk_lt ha.blk)).trans ha.blk
  have hne : some g ≠ vs.ownBlock := Kd.R_ne (Kd.R_below ha.slots hbw) hbk (by decide)
  have hbk2 := (hg.block g (blk_lt hbk) hne).trans hbk
  have hfr : Fr B O w (w2.setCell ⟨g, 0, none⟩ v1) := ((((Fr.refl B O w).below hbw hb).grown (fun k hk => (ho k hk).1) hg (Nat.le_trans hb hbw.size) fun k hk => .inl (ha.slots.1 k hk))).set (fun k hk => (ho k hk).1) ha.own.2 _ _
  refine ⟨⟨⟨v1, ⟨?_, ⟨ha.own.1, .inl ha.own.2⟩, ?_⟩⟩, own_bound ho hb hfr.low.size, Nat.le_trans hb hfr.low.size, hbd⟩, hfr, old_grow⟩
  · exact (heap_setCell_same w2 g 0 _ 48 v1 hbk2).trans rfl
  · have h3 := Kd.R_set hr hbk2 (fun q hq => by
      rcases List.mem_cons.1 hq with rfl | hq
      · decide
      · have : q = 5 := by simpa [k51, Go.Proofs.Ytgbjilcfgpbcgaa.B.k51, Kd.iso, Kd.pair, Kd.slice, Kd.int, Kd.scalar] using hq
        subst this; decide) 0 v1
    exact Kd.R_mono (Kd.R_bound h3) fun k hk => hk.1.imp (fun h => h) fun h => ⟨h, hk.2.2.1⟩
/-- The append as one step of a region that draws. -/
theorem app_step {ops : Array Oper} {o : Oper} {a : Act} {Q : Exit → Act → World → Prop} {Kc : Act → World → Prop} {w : World} {A1 : Option Addr} {n c1 : Nat} {xs : List Int} {id : Int} {vs : Value} {R2 : World → Value → Prop}
    (happ : ∀ W : World, Below w.heap.size w W → kb.R 5 W w.heap.size (fun _ => True) (.slice A1 n c1) xs → ∃ v1 w1, (Builtin.append_ #[46, 46] 46 #[vs, .slice (some ⟨W.heap.size, 0, none⟩) 1 1]).run Try.prog (W.alloc (.cells #[.int .i64 (⟨id, xs⟩ : S51).f0, .slice A1 n c1] 51)) = .ok v1 w1 ∧ R2 w1 v1 ∧ W.grownBy w1 vs.ownBlock ∧ (v1.ownBlock = vs.ownBlock ∨ ∃ b, v1.ownBlock = some b ∧ W.heap.size ≤ b))
    {W : World} (hbw : Below w.heap.size w W) (hv : kb.R 5 W w.heap.size (fun _ => True) (.slice A1 n c1) xs) (s x : Operand) (hw : Region.wanted o (yielded ops a.tmps) = true) (ho : (o.op, o.type) = (.call { callee := .builtin .append, args := #[s, x], argTypes := #[46, 46] }, 46)) (hs : a.eval s = vs) (hx : a.eval x = .slice (some ⟨W.heap.size, 0, none⟩) 1 1)
    (h : ∀ v1 w1, R2 w1 v1 → W.grownBy w1 vs.ownBlock → Kc (a.put o.dst v1) w1) :
    if Region.wanted o (yielded ops a.tmps) = true then Oper.wp Try.prog o a (W.alloc (.cells #[.int .i64 id, .slice A1 n c1] 51)) Kc Q else Kc (a.put o.dst undef) (W.alloc (.cells #[.int .i64 id, .slice A1 n c1] 51)) := by
  obtain ⟨v1, w1, hr, h1, h2, _⟩ := happ W hbw hv
  obtain ⟨ho1, ho2⟩ := Prod.mk.inj ho
  refine event_step hw ?_ (h v1 w1 h1 h2)
  have hr' : (Builtin.append_ #[46, 46] 46 #[vs, .slice (some ⟨W.heap.size, 0, none⟩) 1 1]).run Try.prog (W.alloc (.cells #[.int .i64 id, .slice A1 n c1] 51)) = .ok v1 w1 := hr
  unfold execOp
  simp only [ho1, ho2, resolve, invoke, builtin, Sem.run_bind, Sem.run_pure, Result.andThen_ok, List.map_toArray, List.map_cons, List.map_nil, hs, hx, hr']
set_option maxHeartbeats 8000000 in
set_option maxRecDepth 100000 in
theorem layR_calls {B : Nat} {w : World} {g : Nat} {sl : List S51} {la : Int} {O : Nat → Prop} (h : R8 B w g sl la O) (hbd : sl.length + 1 ≤ 4000000000000) (id : Int) (A : Option Addr) (n c : Nat) (xs : List Int) (hl : xs.length = n) (hc : n ≤ c) (hC : kb.C w A n xs) (hn : n ≤ 140737488355328) {j : Nat} (hj : FirstFree sl j) :
    Calls Try.prog 32 #[.pointer (some ⟨g, 0, none⟩), .int .i64 id, .slice A n c] w fun e w' => e = .returned (.tuple #[]) ∧ Nr B w g O (layR sl j ⟨id, xs⟩) la w' (grow O w w') := by
  obtain ⟨⟨vs, ha⟩, ho, hb, hd⟩ := h
  have HA := Aside0.mk ha
  have HO := Aside0.mk ho
  have HB := Aside0.mk hb
  have HJ := Aside0.mk hj
  have HBD := Aside0.mk hbd
  have HCP := Aside0.mk (copy_calls A n c xs w hl hc hn hC)
  have HL := Aside0.mk hl
  clear ha ho hb hj hbd hl hc hC hn hd
  go_enter Try.func32, Try.ntmps32
  go_wp2_with (first | (go_at_call 15; (with_reducible refine HCP.out.mono ?_); rintro e w1 ⟨v, rfl, hR, hb1⟩; have HR := Aside0.mk hR; have HB1 := Aside0.mk hb1; obtain ⟨A1, c1, ev⟩ := Kd.R_slice hR; rw [HL.out] at ev; subst ev; clear hR hb1))
  have hbx := heap_alloc_new w1 (.cells #[.int .i64 id, .slice A1 n c1] 51)
  have hb2 := below_alloc (Below.refl w1.heap.size w1) (.cells #[.int .i64 id, .slice A1 n c1] 51)
  have hB2 : Aside0 (Below w.heap.size w (w1.alloc (.cells #[.int .i64 id, .slice A1 n c1] 51))) := ⟨HB1.out.trans (hb2.mono HB1.out.size)⟩
  have hR2 := Aside0.mk (Kd.R_below HR.out hb2)
  obtain ⟨gs, hgs⟩ : ∃ gs, w1.heap.size = gs := ⟨_, rfl⟩
  rw [hgs] at hbx
  rw [hgs]
  generalize w1.alloc (.cells #[.int .i64 id, .slice A1 n c1] 51) = W1 at hbx hB2 hR2 ⊢
  clear HB1 HR hb2 hgs HCP
  have s0 : W1.cell? ⟨gs, 0, none⟩ = some (.int .i64 id) := (blk_cell hbx 0).trans rfl
  have s1 : W1.cell? ⟨gs, 1, none⟩ = some (.slice A1 n c1) := (blk_cell hbx 1).trans rfl
  obtain ⟨Av, cv, ev, hcv, hCv⟩ := Kd.R_reads (Kd.R_below HA.out.slots hB2.out)
  obtain ⟨ln, hln⟩ : ∃ ln, sl.length = ln := ⟨_, rfl⟩
  have HLN := Aside0.mk hln
  rw [hln] at ev hCv
  have HCV := Aside0.mk hCv
  have HEV := Aside0.mk ev
  have hgk : W1.heap[g]? = some (.cells #[vs, .int .i64 la] 48 (0, 0)) := (hB2.out.block g (blk_lt HA.out.blk)).trans HA.out.blk
  have g0 : W1.cell? ⟨g, 0, none⟩ = some (.slice Av ln cv) := by rw [← ev]; exact (blk_cell hgk 0).trans rfl
  have gf : W1.frozen? ⟨g, 0, none⟩ = false := frozen_of_row W1 g 0 _ 48 hgk
  have HBX := Aside0.mk hbx
  clear hCv ev hcv hgk hbx hln
  go_loopg [7] (ln + 1) (fun kq v7 W => ∃ i : Nat, v7 = .int .i64 i ∧ Aside0 (i ≤ j ∧ i ≤ ln ∧ kq = ln + 1 - i) ∧ W = W1)
  case atStart => exact ⟨0, rfl, ⟨by omega, by omega, by omega⟩, rfl⟩
  case round =>
    obtain ⟨i, rfl, HI, rfl⟩ := hrel
    by_cases hi : i < ln
    · have q1 : decide ((i : Int) < (ln : Int)) = true := decide_eq_true (by omega)
      have j0 : (0 : Int) ≤ (i : Int) := by omega
      have j1 : (i : Int) < (ln : Int) := by omega
      have j2 : ((i : Int)).toNat = i := by omega
      obtain ⟨ad, e, x0⟩ := at51 HCV.out i hi
      subst e
      obtain ⟨y, hy⟩ : ∃ y, idA sl i = y := ⟨_, rfl⟩
      rw [hy] at x0
      by_cases hij : i < j
      · have hne : y ≠ 0 := by rw [← hy]; exact HJ.out.none i hij
        have q2 : (y == 0) = false := beq_eq_false_iff_ne.2 hne
        clear hy hne
        go_wp2
        go_roundg (ln + 1 - (i + 1))
        case measure => have := HI.out; omega
        case rel => exact ⟨i + 1, congrArg (Value.int .i64) (by have := HBD.out; have := HLN.out; simp only [wrap64]; omega), ⟨by omega, by omega, rfl⟩, rfl⟩
      · have hj : j = i := by have := HI.out.1; omega
        have hy0 : y = 0 := by rw [← hy]; have := HJ.out.free (by rw [HLN.out, hj]; exact hi); rw [hj] at this; exact this
        have q2 : (y == 0) = true := beq_iff_eq.2 hy0
        obtain ⟨b, cap, cur, hvb, hOb, hcur, hsz⟩ := slots_form (Kd.R_below HA.out.slots hB2.out) (by rw [HLN.out]; omega)
        have hvs := HEV.out
        rw [hvb] at hvs
        injection hvs with e1 e2 e3
        injection e1 with e1
        subst e1
        rw [HLN.out] at hsz
        obtain ⟨o0, z0⟩ : ∃ o0, wr.cell? ⟨b, i * 2, none⟩ = some o0 := ⟨_, (blk_cell hcur (i * 2)).trans (Array.getElem?_eq_getElem (by omega))⟩
        obtain ⟨o1, z1⟩ : ∃ o1, wr.cell? ⟨b, i * 2 + 1, none⟩ = some o1 := ⟨_, (blk_cell hcur (i * 2 + 1)).trans (Array.getElem?_eq_getElem (by omega))⟩
        have y0 : wr.frozen? ⟨b, i * 2, none⟩ = false := frozen_of_row wr b _ _ 51 hcur
        have y1 : wr.frozen? ⟨b, i * 2 + 1, none⟩ = false := frozen_of_row wr b _ _ 51 hcur
        have HIJ := Aside0.mk hj
        have hA2 := HA.out
        rw [HEV.out] at hA2
        have HA2 := Aside0.mk hA2
        have HII := Aside0.mk hi
        rw [add_plain] at x0
        clear hA2 hj hy0 hy hvb hOb hcur hsz e2 e3 hij
        go_upto_region 5 with (fail)
        go_region_law (fail)
        all_goals
          go_wp2
          (try simp only [Exit.inBlock, Exit.then])
          refine bodyPost_ret (results_none rfl _ _ _) rfl ?_
          have hfin := fun (W : World) (hbw : Below w.heap.size w W) (hv : kb.R 5 W w.heap.size (fun _ => True) (.slice A1 n c1) xs) => lay_fin_put HA2.out HO.out HB.out HBD.out hbw ⟨id, xs⟩ hv i HII.out
          have e1 : layR sl j ⟨id, xs⟩ = sl.set i ⟨id, xs⟩ := by unfold layR; rw [HIJ.out, if_pos (by rw [HLN.out]; exact HII.out)]
          refine ⟨rfl, ?_⟩
          rw [e1]
          exact (hfin _ hB2.out hR2.out).drew HB.out
    · have hj : j = ln := by have := HI.out; have := HJ.out.le; rw [HLN.out] at this; omega
      have q1 : decide ((i : Int) < (ln : Int)) = false := decide_eq_false (by omega)
      have hin : i = ln := by have := HI.out; omega
      have HJL := Aside0.mk hj
      have happ := fun (W : World) (hbw : Below w.heap.size w W) (hv : kb.R 5 W w.heap.size (fun _ => True) (.slice A1 n c1) xs) => app51 (W := W) (base := B) (ok := fun k => O k ∨ w.heap.size ≤ k) (okp := fun k => w.heap.size ≤ k) (Kd.R_mono (Kd.R_below HA.out.slots hbw) fun _ h => .inl h) ⟨id, xs⟩ (Kd.R_lower (Kd.R_mono (Kd.R_bound hv) fun k hk => hk.2.1) HB.out) (fun k hk => ⟨.inr hk, fun e => by have := (HO.out k (HA.out.slots.1 k e.symm)).2; omega⟩) (fun k hk => .inr (Nat.le_trans hbw.size hk)) (Nat.le_trans HB.out hbw.size) (by have := HBD.out; omega)
      have HAP := Aside0.mk happ
      have gd := fun (o : Obj) => (show (wr.alloc o).cell? ⟨g, 0, none⟩ = some (.slice Av ln cv) from by rw [← HEV.out]; exact (blk_cell (blk_alloc ((hB2.out.block g (blk_lt HA.out.blk)).trans HA.out.blk) _) 0).trans rfl)
      have t0 := gd (.cells #[.int .i64 id, .slice A1 n c1] 51)
      clear happ hj gd
      go_upto_region 6 with (fail)
      go_region_law (refine app_step HAP.out (below_drew hB2.out) hR2.out (.tmp 41) (.tmp 43) rfl rfl (by simp [Act.eval, Act.put, HEV.out]) (by simp [Act.eval, Act.put]) ?_; intro v2 w2 hr2 hg2; have HR2 := Aside0.mk hr2; have HG2 := Aside0.mk hg2; obtain ⟨A9, c9, ev9⟩ := Kd.R_slice hr2; obtain ⟨n9, hn9⟩ : ∃ n9, (sl ++ [(⟨id, xs⟩ : S51)]).length = n9 := ⟨_, rfl⟩; rw [hn9] at ev9; have hgk := (hg2.block g (blk_lt (((below_drew hB2.out).block g (blk_lt HA.out.blk)).trans HA.out.blk)) (Kd.R_ne (Kd.R_below HA.out.slots (below_drew hB2.out)) (((below_drew hB2.out).block g (blk_lt HA.out.blk)).trans HA.out.blk) (by decide))).trans (((below_drew hB2.out).block g (blk_lt HA.out.blk)).trans HA.out.blk); have g2 : w2.cell? ⟨g, 0, none⟩ = some vs := (blk_cell hgk 0).trans rfl; have gf2 : w2.frozen? ⟨g, 0, none⟩ = false := frozen_of_row w2 g 0 _ 48 hgk; subst ev9; clear hr2 hg2 hn9 hgk)
      all_goals
        go_wp2
        go_end0
        have e1 : layR sl j ⟨id, xs⟩ = sl ++ [⟨id, xs⟩] := by unfold layR; rw [HJL.out, if_neg (by rw [HLN.out]; omega)]
        refine ⟨rfl, ?_⟩
        rw [e1]
        exact lay_fin_app HA.out HO.out HB.out (by rw [List.length_append, List.length_singleton]; exact HBD.out) (below_drew hB2.out) HR2.out HG2.out
end Go.Proofs.Ytgbjilcfgpbcgaa
